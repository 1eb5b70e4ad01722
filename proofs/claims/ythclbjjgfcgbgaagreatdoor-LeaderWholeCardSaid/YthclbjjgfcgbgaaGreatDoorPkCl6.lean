/- Joined. -/
import Derived.Test.YthclbjjgfcgbgaaGreatDoorPkCl4
import Derived.Lib.Bytealg
set_option linter.unusedSimpArgs false
set_option linter.unusedVariables false
set_option maxRecDepth 1000000
open Go.Proofs.Tryz renaming prog->zA,func118->zU
open Bool renaming and_eq_true->zB,cond_eq_ite->zH,false_eq_true->zK
open Nat renaming le_of_ble_eq_true->zC,lt_of_lt_of_le->zF,lt_succ_self->zI,le_refl->zJ,eq_of_beq_eq_true->zN,ble_eq_true_of_le->zO,blt->zQ,ble->zW,add->zX,sub->zY,beq->zZ
open Go.Lib renaming indexByte->zD,hid->zV
open List renaming mem_of_getElem?->zG,getElem?_map->zL,length_map->zM,all_cons->zS
open Classical renaming byContradiction->zT
open Go
namespace Go.Proofs.YthclbjjgfcgbgaaGreatDoor
section
namespace Ev
open Go Go.RowKit
theorem yqk(c:UInt8):∀(l:List UInt8) (k:Nat),(match yqq c l k with|some i=>Int.ofNat i|none=>-1)=(if zD l c == -1 then -1 else zD l c+(k:Int))
 |[],k=>by simp[yqq,zD]
 | x :: l,k=>by
   unfold yqq zD
   by_cases b:x=c
   .subst b;simp
   .have e:zZ x.toNat c.toNat=false:=by
     rw[Bool.eq_false_iff];intro h;exact b (UInt8.toNat_inj.1 (zN h))
    have f:(x==c)=false:=by simpa using b
    rw[e,f];have g:=yqk c l (k+1);simp only[zH,zK,if_false];rw[g];have:=Lib.indexByte_ge l c
    by_cases d:zD l c = -1
    .simp[d]
    .have a:(zD l c == -1)=false:=by simpa using d
     rw[a];simp only[zK,if_false];rw[if_neg (by simp;omega)]
     push_cast;omega
theorem ybhf(args:List Value)(m:Mem)(out:Out)(h:yln m args=some out):ybz zA (.call 245 args m) out:=by
 unfold yln at h;split at h
 .rename_i s c
  have d:=yqk c.toUInt8 s.data.toList 0
  have f:∀n:Int,n=zD s.data.toList c.toUInt8->ybz zA (.call 245 [.string s,.int .u8 (.ofNat c)] m) (.call (.int .i64 n) (ygp m)):=by
   intro n v z;refine⟨⟨zJ _,fun i b g=>.inl ⟨b,g⟩,fun i b _ _ g=>g,z⟩,fun l M w a u x y _=>.inr ⟨.int .i64 n,w,?_,?_⟩⟩
   .have e:a=[.string s,.int .u8 (.ofNat c)]:=by
     cases y with
     | cons p q =>
       cases q with
       | cons r t =>
         cases t
         rw[p.eq_simple rfl,r.eq_simple rfl]
    subst e;rw[run_callFunc_extern Tryz.func245 (by kernel_rfl) (by kernel_rfl) (by kernel_rfl) (by kernel_rfl),Lib.run_indexByteString,v]
    rfl
   .exact⟨_,rfl,l,M,⟨l.le_refl,fun _ _=>rfl,u,x,fun _ _ _=>rfl,WG.refl _ _ _⟩,.simple rfl⟩
  have o:(if zD s.data.toList c.toUInt8 == -1 then -1 else zD s.data.toList c.toUInt8+((0:Nat):Int))=zD s.data.toList c.toUInt8:=by
   by_cases k:zD s.data.toList c.toUInt8 = -1
   .simp[k]
   .simp[k]
  rw[o]at d;split at h
  .rename_i i j
   rw[j]at d;simp only[ybr]at h;cases h
   exact f _ d
  .rename_i j
   rw[j]at d;cases h
   exact f _ d
 .cases h
end Ev
end
section
open Go.RowKit
theorem ybfd(w:World):Calls zA 154 #[.nilIface] w fun e a=>e = .returned (.tuple #[.agg #[.int .i64 0,.int .i64 0],.bool false])/\Below w.heap.size w a:=by
 go_enter Tryz.func154,Tryz.ntmps154
 go_wp2
 refine⟨rfl,.tuple #[.agg #[.int .i64 0,.int .i64 0],.bool false],?_,rfl,?_⟩
 .simp[results,Tryz.results154,go_sem]
 .exact(Below.refl _ _).alloc (zJ _) _
theorem catch_idle(p q:Addr)(w:World) :
 CallsD zA 153 #[.pointer (some p),.pointer (some q)] .returning w fun e d f=>e = .returned (.tuple #[])/\d = .returning/\Below w.heap.size w f:=by
 refine callsD_of_wpS Tryz.func153 rfl fun a g c=>?_;apply wpS_seq;apply wpS_region;simp[wpOpsS,go_sem,recoverD,c,Tryz.ntmps153,Exit.thenS];refine(ybfd w).mono ?_;rintro e h ⟨rfl,b⟩;simp[go_sem];apply wpS_seq;apply wpS_region;simp[wpOpsS,go_sem,Exit.thenS];refine wpS_cond (t:=false) (by simp[Act.eval,Array.replicate]) ?_
 simp only[zK,if_false];refine wpS_of_wp (wp_skip ?_);refine⟨rfl,.returning,by cases a;simp_all,.tuple #[],by simp[results,Tryz.results153],rfl,rfl,b.alloc b.size _⟩
def ygr(w:World):World:=(w.alloc (.cells #[.int .i64 0] 3)).alloc (.cells #[.int .i64 0] 42)
theorem ycnu(w:World):(ygr w).heap[w.heap.size]?=some (.cells #[.int .i64 0] 3):=by
 unfold ygr;rw[Below.heap_alloc _ _ _ (by simp[go_sem])]
 exact heap_alloc_new w _
theorem ycqp(w:World):(ygr w).heap[w.heap.size+1]?=some (.cells #[.int .i64 0] 42):=by
 have:=heap_alloc_new (w.alloc (.cells #[.int .i64 0] 3)) (.cells #[.int .i64 0] 42);rw[show(w.alloc (.cells #[.int .i64 0] 3)).heap.size=w.heap.size+1 by simp[go_sem]]at this
 exact this
theorem yblu (h:FuncId) (first cap:Array Value) (w:World) (Q:World->Prop)
 (t:∀a,Q a->a.heap[w.heap.size]?=(ygr w).heap[w.heap.size]?/\a.heap[w.heap.size+1]?=(ygr w).heap[w.heap.size+1]?)
 (i:((callFunc h (first++cap)).run zA (ygr w) = .ok (.enter h (first++cap)) (ygr w)/\Calls zA h (first++cap) (ygr w) fun e a=>(∃v,e = .returned v)/\Q a) \/
   (∃v a,(callFunc h (first++cap)).run zA (ygr w) = .ok (.value v) a/\Q a)) :
 Calls zA 118 #[.func (.func h) first cap] w fun e c=>e = .returned (.tuple #[.int .i64 0,.int .i64 0]) /\
  ∃a,Q a/\Below a.heap.size ((a.setCell ⟨w.heap.size,0,none⟩ (.int .i64 0)).setCell ⟨w.heap.size+1,0,none⟩ (.int .i64 0)) c:=by
 have n:∀(fn:Fn) (first cap:Array Value) (w:World),(Instr.makeFunc fn first cap).run zA w = .ok (.func fn first cap) w:=fun _ _ _ _=>rfl
 have Hq:=zV t;clear t
 have p:=zV i;clear i
 go_enter_defers zU,Tryz.ntmps118
 generalize x:(Code.seq (Code.region 2 _ false) _)=C
 generalize u:(bodyPostD _ _ _)=B
 go_wp2
 subst x u;refine wp_seq (wp_region_list ?_);refine wpList_plain rfl fun K s=>?_;simp[Oper.wp,go_sem];apply s;refine wpList_plain rfl fun q m=>?_;simp[Oper.wp,go_sem]
 have b:∀v a,Q a->q { tmps:=#[.func (.func h) first cap,undef,.pointer (some ⟨w.heap.size,0,none⟩),.pointer (some ⟨w.heap.size+1,0,none⟩),.func (.func 153) #[] #[.pointer (some ⟨w.heap.size,0,none⟩),.pointer (some ⟨w.heap.size+1,0,none⟩)],.func (.func h) first cap,v],defers:=[{ target:=.fn (.func 153) #[.pointer (some ⟨w.heap.size,0,none⟩),.pointer (some ⟨w.heap.size+1,0,none⟩)],args:=#[] }] } a:=by
  intro v a j;apply m;refine wpList_nil ?_;obtain⟨d,g⟩:=Hq.out a j;have d:a.heap[w.heap.size]?=some (.cells #[.int .i64 0] 3):=d.trans (ycnu w);have g:a.heap[w.heap.size+1]?=some (.cells #[.int .i64 0] 42):=g.trans (ycqp w);have c1:a.cell? ⟨w.heap.size,0,none⟩=some (.int .i64 0):=by simp[World.cell?,d]
  have c2:a.cell? ⟨w.heap.size+1,0,none⟩=some (.int .i64 0):=by simp[World.cell?,g]
  have D:a.frozen? ⟨w.heap.size,0,none⟩=false:=by simp[World.frozen?,d]
  have E:a.frozen? ⟨w.heap.size+1,0,none⟩=false:=by simp[World.frozen?,g]
  have y:=(Array.getElem?_eq_some_iff.1 d).1;have z:=(Array.getElem?_eq_some_iff.1 g).1;have HQ:=zV j;clear j
  clear d g
  simp only[Exit.then]
  go_wp2
  refine leaves_cons (f:=153) (args:=#[.pointer (some ⟨w.heap.size,0,none⟩),.pointer (some ⟨w.heap.size+1,0,none⟩)]) (by simp) (by simp[go_sem]) ?_
  refine(catch_idle ⟨w.heap.size,0,none⟩ ⟨w.heap.size+1,0,none⟩ _).mono ?_;rintro e A c ⟨rfl,rfl,l⟩;have o:((a.setCell ⟨w.heap.size,0,none⟩ (.int .i64 0)).setCell ⟨w.heap.size+1,0,none⟩ (.int .i64 0)).heap.size=a.heap.size:=by simp[go_sem]
  rw[o]at l
  have d1:c.cell? ⟨w.heap.size,0,none⟩=some (.int .i64 0):=by
   rw[l.cell y];simp[go_sem,c1]
  have d2:c.cell? ⟨w.heap.size+1,0,none⟩=some (.int .i64 0):=by
   rw[l.cell z];simp[go_sem,c2]
  simp[Leaves,settle,results,Tryz.results118,go_sem,d1,d2];exact⟨a,HQ.out,l⟩
 have k:=RowKit.Hid.out p
 clear p n Hq s
 revert b
 generalize q=K
 intro b;rw[show((w.alloc (Obj.cells #[Value.int IntKind.i64 0] 3)).alloc (Obj.cells #[Value.int IntKind.i64 0] 42))=ygr w from rfl]
 generalize Sem.run zA (callFunc h (first++cap)) (ygr w)=r at k ⊢
 rcases k with⟨rfl,i⟩|⟨v,a,rfl,i⟩
 .rw[Oper.upon_enter];refine i.mono ?_;rintro e a ⟨⟨v,rfl⟩,j⟩;exact b v a j
 .exact b v a i
end
section
namespace Ev
open Go Go.RowKit
theorem yxq(w:World)(k:Nat)(hk:k<w.heap.size):(ygr w).heap[k]?=w.heap[k]?:=by
 unfold ygr;rw[Below.heap_alloc _ _ _ (by simp[go_sem];omega),Below.heap_alloc _ _ _ hk]
theorem yfr(w:World):(ygr w).heap.size=w.heap.size+2:=by simp[ygr,go_sem]
theorem ycph(self:Task->Option Out)(s:yfj zA self)(args:List Value)(m:Mem)(out:Out)(h:ybdd self m args=some out):ybz zA (.call 118 args m) out:=by
 unfold ybdd at h;split at h
 .rename_i g first y
  obtain⟨o,ho,f⟩:=yg h;cases o with
  |code=>cases f
  | call v m1 =>
    cases f
    have hs:=s _ _ ho;intro hw;obtain⟨C,A⟩:=hs hw;refine⟨C,fun I M w K N D hv r=>.inl ⟨ycc yur zU rfl _ _,?_⟩⟩;obtain⟨u,rfl,hu⟩:=yha hv;obtain⟨G,H,rfl,P,Q⟩:=hu.func_inv;have O:Rel I M (ygr w):=N.keep fun k hk=>yxq w k hk
    have d:∀k,w.heap.size<=k->¬Img I M k:=by
     rintro k hk ⟨i,b,l,n,f,L⟩;obtain⟨l',V,Z⟩:=N.blk i b n;rw[f]at V;cases V
     have:=Z.lt;omega
    have j:=A I M (ygr w) (G++H) O D (P.append Q) r;rw[show(G++H).toArray=G.toArray++H.toArray by simp]at j
    refine(yblu g G.toArray H.toArray w (fun p=>∃e,yecm I M (ygr w) m v m1 e p) ?_ ?_).mono ?_
    .rintro p ⟨e,F,rfl,t,J,a,T⟩;exact⟨a.wg.keep _ (by rw[yfr];omega) (d _ (zJ _)),a.wg.keep _ (by rw[yfr];omega) (d _ (by omega))⟩
    .rcases j with⟨n,f⟩|⟨F,p,n,f⟩
     .refine .inl ⟨n,f.mono ?_⟩;intro e p hk;have R:=hk;obtain⟨F,rfl,_⟩:=hk;exact⟨⟨_,rfl⟩,_,R⟩
     .exact .inr ⟨F,p,n,_,f⟩
    .rintro e E ⟨rfl,p,⟨e,F,rfl,t,J,a,T⟩,B⟩;have a2:w.heap.size+2<=p.heap.size:=by rw[<-yfr];exact a.wg.size
     have c:∀k,k<p.heap.size->k≠w.heap.size->k≠w.heap.size+1->E.heap[k]?=p.heap[k]?:=fun k hk n f=>by
      rw[B.block k hk,Below.heap_setCell _ _ _ _ f,Below.heap_setCell _ _ _ _ n]
     have S:∀k,Img t J k->k≠w.heap.size/\k≠w.heap.size+1:=fun k z=>by
      refine⟨?_,?_⟩
      .rintro rfl;exact d _ (zJ _) (a.wg.img _ (by rw[yfr];omega) z)
      .rintro rfl;exact d _ (by omega) (a.wg.img _ (by rw[yfr];omega) z)
     have a0:p.heap.size<=E.heap.size:=by
      have:=B.size
      simpa[go_sem]using this
     refine⟨_,rfl,t,J,⟨a.le,a.out,⟨⟨fun i b n=>?_,a.rel.inj⟩,fun x U=>⟨?_,(a.rel.gl x U).2⟩⟩,a.sub,a.frame,⟨B.os.trans a.wg.os,B.tape.trans a.wg.tape,B.output.trans a.wg.output,by omega,fun k hk z=>?_,fun k hk z=>a.wg.img k (by rw[yfr];omega) z⟩⟩,?_⟩
     .obtain⟨l,f,L⟩:=a.rel.blk i b n;have W:=S l.blk ⟨i,b,l,n,f,rfl⟩;exact⟨l,f,L.keep (c _ L.lt W.1 W.2)⟩
     .obtain⟨e,X,q⟩:=(a.rel.gl x U).1;obtain⟨e0,Y,q0⟩:=(N.gl x U).1;have a1:=(Array.getElem?_eq_some_iff.1 q0).1;exact⟨e,X,(c _ (by omega) (by omega) (by omega)).trans q⟩
     .rw[c k (by omega) (by omega) (by omega),a.wg.keep k (by rw[yfr];omega) z,yxq w k hk]
     .exact .tuple (.cons (.simple rfl) (.cons (.simple rfl) .nil))
 .cases h
end Ev
end
section
namespace Ev
open Go Go.RowKit
def hkC(a:List Chunk):Hooks:=⟨some 118,some 245,some 175,symB,a,none⟩
def hk(a:List Fact):Hooks:=hkC [⟨1000000000000,a⟩]
def yh(a:List Fact):Prop:=∀f∈a,yfu zA f
def ybp(a:List Chunk):Prop:=∀c∈a,yh c.l
theorem ydgh{a:List Chunk}(h:ybp a):HooksOk zA (hkC a) :=
 ⟨fun g h=>(by cases h;exact ycph),fun g h=>(by cases h;exact ybhf),fun g h=>(by cases h;exact ybyy),h,fun g h=>(by cases h)⟩
theorem ybp.nil:ybp []:=fun c a=>by cases a
theorem ybp.cons{n:Nat}{l:List Fact}{b:List Chunk}(h:yh l)(t:ybp b):ybp (⟨n,l⟩::b):=fun c a=>by
 rcases List.mem_cons.1 a with rfl|a
 .exact h
 .exact t c a
theorem yehv{a:List Fact}(h:yh a):HooksOk zA (hk a):=ydgh (ybp.cons h ybp.nil)
theorem yh.nil:yh []:=fun f a=>by cases a
theorem yh.cons{f:Fact}{l:List Fact}(h:yfu zA f)(t:yh l):yh (f::l):=fun x a=>by
 rcases List.mem_cons.1 a with rfl|a
 .exact h
 .exact t x a
theorem yh.at_{f:Fact}{l:List Fact}(h:yh l)(i:Nat)(e:l[i]?=some f):yfu zA f:=h f (zG e)
theorem yh.append{a b:List Fact}(c:yh a)(d:yh b):yh (a++b):=fun f e=>by
 rcases List.mem_append.1 e with h|h
 .exact c f h
 .exact d f h
noncomputable def checkSeq(new:List Fact):List Fact->Bool:=List.rec (fun _=>true) (fun f _ b a=>f.check zA (hk a)&&b (f::a)) new
theorem yh.seq:∀{new b:List Fact},yh b->checkSeq new b=true->yh new
 |[],_,_,_=>yh.nil
 | f :: l,b,h,c=>by
   have c:(f.check zA (hk b)&&checkSeq l (f::b))=true:=c;rw[zB]at c;have e:yfu zA f:=yuc (yvt mix yur (yehv h) 3000) c.1
   have d:yh (f::b):=fun x a=>by
    rcases List.mem_cons.1 a with rfl|a
    .exact e
    .exact h x a
   have g:=yh.seq d c.2;intro x a;rcases List.mem_cons.1 a with rfl|a
   .exact e
   .exact g x a
theorem yh.one{f:Fact}{a:List Chunk}(h:ybp a)(b:f.check zA (hkC a)=true):yh [f] :=
 yh.cons (yuc (yvt mix yur (ydgh h) 3000) b) yh.nil
def by8(l:List Nat):ByteArray:=⟨(l.map Nat.toUInt8).toArray⟩
end Ev
end
section
namespace Ev
noncomputable section defs
def renA(ρ:Nat->Nat)(a:Addr):Addr:=yhl (ρ a.block) fun b=>⟨b,a.off,a.spot⟩
def ren1(ρ:Nat->Nat):Value->Value
 |.pointer (some a)=>.pointer (some (renA ρ a))
 |.slice (some a) n c=>.slice (some (renA ρ a)) n c
 |v=>v
def ren2(ρ:Nat->Nat):Value->Value
 |.agg a=>.agg (a.toList.map (ren1 ρ)).toArray
 |.func g a c=>.func g (a.toList.map (ren1 ρ)).toArray (c.toList.map (ren1 ρ)).toArray
 |v=>ren1 ρ v
def renV(ρ:Nat->Nat):Value->Value
 |.tuple a=>.tuple (a.toList.map (ren2 ρ)).toArray
 |v=>ren2 ρ v
def yuy:Value->Bool
 |.pointer (some a)=>a.spot.isNone
 |.slice (some a) _ _=>a.spot.isNone
 |v=>simple v
def yoj:Value->Bool
 |.agg a=>a.toList.all yuy
 |.func (.func _) a c=>a.toList.all yuy&&c.toList.all yuy
 |v=>yuy v
def ycgf:Value->Bool
 |.tuple a=>a.toList.all yoj
 |v=>yoj v
def ybdt:List BlkL->List Nat->Nat->Nat->Nat
 |b::l,t::k,d,i=>bif zZ b.i i then t else ybdt l k d i
 |_,_,d,_=>d
def Fact.rho(f:Fact)(tgt:List Nat)(n0:Nat)(i:Nat):Nat :=
 bif zW f.next0 i&&zQ i f.next1 then zX (zY i f.next0) n0 else ybdt f.pre tgt (zX n0 (zY f.next1 f.next0)) i
def BlkL.ren(ρ:Nat->Nat)(b:BlkL):BlkL:=⟨yhl (ρ b.i) fun i=>i,b.e,b.z,b.l.map (ren2 ρ)⟩
def Fact.move(f:Fact)(tgt:List Nat)(n0:Nat):Fact :=
 ⟨f.g,f.args.map (ren2 (f.rho tgt n0)),n0,f.pre.map (BlkL.ren (f.rho tgt n0)),renV (f.rho tgt n0) f.v,zX n0 (zY f.next1 f.next0),f.post.map (BlkL.ren (f.rho tgt n0)),n0⟩
def Fact.after(f:Fact):Mem:=⟨f.next1,yiw f.mem.b f.post,f.next0⟩
def yio:List Nat->Bool
 |[]=>true
 |x::l=>!(l.elem x)&&yio l
def Fact.moves(f:Fact)(tgt:List Nat)(n0:Nat):Bool :=
 zW f.next0 f.low&&f.args.all yoj&&ycgf f.v&&f.pre.all (fun b=>zQ b.i f.next0&&b.l.all yoj)&&f.post.all (fun b=>zQ b.i f.next1&&b.l.all yoj) &&
  yio ((f.move tgt n0).pre.map (·.i))&&(f.move tgt n0).pre.all (fun b=>zQ b.i n0&&yxa (f.move tgt n0).mem b)&&(f.move tgt n0).post.all (yxa (f.move tgt n0).after)&&zW f.next0 f.next1
end defs
section
variable {φ φ2:Phi}{ρ:Nat->Nat}
theorem ymk(a:Addr):renA ρ a=⟨ρ a.block,a.off,a.spot⟩:=by unfold renA;rw[ybr]
theorem BlkL.yil(b:BlkL):(b.ren ρ).i=ρ b.i:=by show yhl (ρ b.i) (fun i=>i)=_;rw[ybr]
theorem vr1(d:∀b,φ b=φ2 (ρ b)){v v':Value}(e:yuy v=true):VR φ v v'↔VR φ2 (ren1 ρ v) v':=by
 unfold yuy at e;split at e
 .rename_i a
  obtain⟨b,o,s⟩:=a;have k:s=none:=by simpa using e
  subst k;show VR φ _ _↔VR φ2 (.pointer (some (renA ρ ⟨b,o,none⟩))) v';rw[ymk];constructor
  .intro h;cases h with
   |simple q=>cases q
   |ptr h=>rw[d]at h;exact VR.ptr h
  .intro h;cases h with
   |simple q=>cases q
   |ptr h=>rw[<-d]at h;exact VR.ptr h
 .rename_i a n c
  obtain⟨b,o,s⟩:=a;have k:s=none:=by simpa using e
  subst k;show VR φ _ _↔VR φ2 (.slice (some (renA ρ ⟨b,o,none⟩)) n c) v';rw[ymk];constructor
  .intro h;cases h with
   |simple q=>cases q
   |slice h f g i j=>rw[d]at h;exact VR.slice h f g i j
  .intro h;cases h with
   |simple q=>cases q
   |slice h f g i j=>rw[<-d]at h;exact VR.slice h f g i j
 .rename_i f g
  have l:ren1 ρ v=v:=by
   unfold ren1;split
   .rename_i a;exact absurd rfl (f a)
   .rename_i a n c;exact absurd rfl (g a n c)
   .rfl
  rw[l];constructor
  .intro h;rw[h.eq_simple e];exact VR.simple e
  .intro h;rw[h.eq_simple e];exact VR.simple e
theorem vrl1(a:∀b,φ b=φ2 (ρ b)):∀{l l':List Value},l.all yuy=true->(VRL φ l l'↔VRL φ2 (l.map (ren1 ρ)) l')
 | [],l',_=>by
   constructor
   .intro h;cases h;exact VRL.nil
   .intro h;cases h;exact VRL.nil
 | v :: l,l',c=>by
   simp only[zS,zB]at c;constructor
   .intro h;cases h with
    |cons d e=>exact VRL.cons ((vr1 a c.1).1 d) ((vrl1 a c.2).1 e)
   .intro h;cases h with
    |cons d e=>exact VRL.cons ((vr1 a c.1).2 d) ((vrl1 a c.2).2 e)
theorem vr2(d:∀b,φ b=φ2 (ρ b)){v v':Value}(e:yoj v=true):VR φ v v'↔VR φ2 (ren2 ρ v) v':=by
 unfold yoj at e;split at e
 .rename_i a
  obtain⟨a⟩:=a;show VR φ (.agg a.toArray) _↔VR φ2 (.agg (a.map (ren1 ρ)).toArray) v';constructor
  .intro h;cases h with
   |simple q=>cases q
   |agg h=>exact VR.agg ((vrl1 d e).1 h)
  .intro h;cases h with
   |simple q=>cases q
   |agg h=>exact VR.agg ((vrl1 d e).2 h)
 .rename_i g a c
  obtain⟨a⟩:=a;obtain⟨c⟩:=c;simp only[zB]at e;show VR φ (.func (.func g) a.toArray c.toArray) _↔VR φ2 (.func (.func g) (a.map (ren1 ρ)).toArray (c.map (ren1 ρ)).toArray) v';constructor
  .intro h;cases h with
   |simple q=>cases q
   |func h k=>exact VR.func ((vrl1 d e.1).1 h) ((vrl1 d e.2).1 k)
  .intro h;cases h with
   |simple q=>cases q
   |func h k=>exact VR.func ((vrl1 d e.1).2 h) ((vrl1 d e.2).2 k)
 .rename_i f j
  have i:ren2 ρ v=ren1 ρ v:=by
   unfold ren2;split
   .rename_i a;exact absurd rfl (f a)
   .rename_i g a c
    cases e
   .rfl
  rw[i];exact vr1 d e
theorem vrl2(a:∀b,φ b=φ2 (ρ b)):∀{l l':List Value},l.all yoj=true->(VRL φ l l'↔VRL φ2 (l.map (ren2 ρ)) l')
 | [],l',_=>by
   constructor
   .intro h;cases h;exact VRL.nil
   .intro h;cases h;exact VRL.nil
 | v :: l,l',c=>by
   simp only[zS,zB]at c;constructor
   .intro h;cases h with
    |cons d e=>exact VRL.cons ((vr2 a c.1).1 d) ((vrl2 a c.2).1 e)
   .intro h;cases h with
    |cons d e=>exact VRL.cons ((vr2 a c.1).2 d) ((vrl2 a c.2).2 e)
theorem vrV(c:∀b,φ b=φ2 (ρ b)){v v':Value}(d:ycgf v=true)(h:VR φ v v'):VR φ2 (renV ρ v) v':=by
 unfold ycgf at d;split at d
 .rename_i a
  obtain⟨a⟩:=a;show VR φ2 (.tuple (a.map (ren2 ρ)).toArray) v';cases h with
  |simple q=>cases q
  |tuple h=>exact VR.tuple ((vrl2 c d).1 h)
 .rename_i e
  have f:renV ρ v=ren2 ρ v:=by
   unfold renV;split
   .rename_i a;exact absurd rfl (e a)
   .rfl
  rw[f];exact(vr2 c d).1 h
theorem ybaf{n:Type}{g:n->Nat}:∀{l:List n},yio (l.map g)=true->∀a∈l,∀b∈l,g a=g b->a=b
 |[],_,a,i,_,_,_=>by cases i
 | x :: l,h,a,i,b,k,e=>by
   have h:(!(l.map g).elem (g x)&&yio (l.map g))=true:=h;simp only[zB,Bool.not_eq_true']at h
   have m:∀y∈l,g y≠g x:=fun y o q=>by
    have:(l.map g).elem (g x)=true:=List.elem_eq_true_of_mem (List.mem_map.2 ⟨y,o,q⟩);rw[this]at h;cases h.1
   rcases List.mem_cons.1 i with j|d
   .rcases List.mem_cons.1 k with f|c
    .rw[j,f]
    .exact absurd (by rw[<-e,j]) (m b c)
   .rcases List.mem_cons.1 k with f|c
    .exact absurd (by rw[e,f]) (m a d)
    .exact ybaf h.2 a d b c e
theorem ybrl:∀(l:List BlkL) (k:List Nat) (d i:Nat),ybdt l k d i=d\/∃b∈l,b.i=i
 |[],_,_,_=>.inl rfl
 |_::_,[],_,_=>.inl rfl
 | b :: l,t::k,d,i=>by
   unfold ybdt;rw[zH];split
   .rename_i h;exact .inr ⟨b,List.mem_cons_self,zN h⟩
   .rcases ybrl l k d i with h|⟨c,a,e⟩
    .exact .inl h
    .exact .inr ⟨c,List.mem_cons_of_mem _ a,e⟩
end
theorem ykk{P:Program}{f:Fact}{tgt:List Nat}{n0:Nat}(f3:yfu P f)(hc:f.moves tgt n0=true):yfu P (f.move tgt n0):=by
 obtain⟨m',hs,e1,e2,e3⟩:=f3;unfold Fact.moves at hc;simp only[zB]at hc;obtain⟨⟨⟨⟨⟨⟨⟨⟨c1,c2⟩,c3⟩,c4⟩,c5⟩,c6⟩,c7⟩,c8⟩,c9⟩:=hc;have c1:=zC c1;have c9:=zC c9;obtain⟨ρ,d0⟩:∃ρ,f.rho tgt n0=ρ:=⟨_,rfl⟩;obtain⟨o,d8⟩:∃o,n0+(f.next1-f.next0)=o:=⟨_,rfl⟩
 have f1:f.move tgt n0=⟨f.g,f.args.map (ren2 ρ),n0,f.pre.map (BlkL.ren ρ),renV ρ f.v,o,f.post.map (BlkL.ren ρ),n0⟩:=by
  unfold Fact.move;rw[d0,<-d8];rfl
 rw[f1]at c6 c7 c8 ⊢;simp only at c6 c7 c8
 have K:∀b∈f.pre,b.i<f.next0/\b.l.all yoj=true:=fun b a=>by
  have:=List.all_eq_true.1 c4 b a;simp only[zB]at this;exact⟨zF (zI _) (zC this.1),this.2⟩
 have W:∀b∈f.post,b.i<f.next1/\b.l.all yoj=true:=fun b a=>by
  have:=List.all_eq_true.1 c5 b a;simp only[zB]at this;exact⟨zF (zI _) (zC this.1),this.2⟩
 have d5:∀b∈f.pre,∀c∈f.pre,ρ b.i=ρ c.i->b=c:=by
  rw[List.map_map]at c6;intro b a c hc he;exact ybaf c6 b a c hc (by show(b.ren ρ).i=(c.ren ρ).i;rw[b.yil,c.yil];exact he)
 have b2:∀b∈f.pre,ρ b.i<n0/\yxa (Fact.mem ⟨f.g,f.args.map (ren2 ρ),n0,f.pre.map (BlkL.ren ρ),renV ρ f.v,o,f.post.map (BlkL.ren ρ),n0⟩) (b.ren ρ)=true:=fun b a=>by
  have:=List.all_eq_true.1 c7 (b.ren ρ) (List.mem_map.2 ⟨b,a,rfl⟩);simp only[zB]at this;have L:=zF (zI _) (zC this.1);rw[b.yil]at L;exact⟨L,this.2⟩
 have G:∀i,f.next0<=i->i<f.next1->ρ i=i-f.next0+n0:=fun i L h2=>by
  rw[<-d0];unfold Fact.rho;rw[zH,if_pos (by simp only[zB];exact⟨zO L,zO h2⟩)]
  rfl
 have d9:∀i,¬(f.next0<=i/\i<f.next1)->ρ i=o\/ρ i<n0:=fun i F=>by
  have L:ρ i=ybdt f.pre tgt o i:=by
   rw[<-d0,<-d8];unfold Fact.rho;rw[zH,if_neg]
   .rfl
   .simp only[zB];exact fun q=>F ⟨zC q.1,zF (zI _) (zC q.2)⟩
  rcases ybrl f.pre tgt o i with h|⟨b,a,rfl⟩
  .exact .inl (L.trans h)
  .exact .inr (b2 b a).1
 have d7:n0<=o:=by omega
 let f2:Fact:=⟨f.g,f.args.map (ren2 ρ),n0,f.pre.map (BlkL.ren ρ),renV ρ f.v,o,f.post.map (BlkL.ren ρ),n0⟩
 have s:∀i x,f.mem.b.get i=some x->∃b∈f.pre,b.i=i/\x=b.blk:=fun i x d=>by
  rcases yju d with h|h
  .exact h
  .cases h
 have b8:∀i x,f2.mem.b.get i=some x->∃b∈f.pre,ρ b.i=i/\x=(b.ren ρ).blk:=fun i x d=>by
  rcases yju d with⟨b',N,L,h2⟩|h
  .obtain⟨b,a,rfl⟩:=List.mem_map.1 N;rw[b.yil]at L;exact⟨b,a,L,h2⟩
  .cases h
 have a8:∀b∈f.post,f.next0<=b.i/\b.i<f.next1/\∃c,m'.b.get b.i=some (.cells c b.l.length b.e b.z)/\∀j v,j<b.l.length->(c.get j=some v↔b.l[j]?=some v):=fun b a=>by
  obtain⟨c,H,_,k2⟩:=ykl (e3 b a).2;exact⟨Nat.le_trans c1 (e3 b a).1,(W b a).1,c,H,k2⟩
 have B:∀i x,(yiw f2.mem.b f2.post).get i=some x->(∃b∈f.post,ρ b.i=i/\x=(b.ren ρ).blk)\/f2.mem.b.get i=some x:=fun i x d=>by
  rcases yju d with⟨b',N,L,h2⟩|h
  .obtain⟨b,a,rfl⟩:=List.mem_map.1 N;rw[b.yil]at L;exact .inl ⟨b,a,L,h2⟩
  .exact .inr h
 have a9:∀b∈f.post,n0<=ρ b.i/\ρ b.i<o:=fun b a=>by
  obtain⟨H,k2,_⟩:=a8 b a;rw[G b.i H k2];omega
 have e4:Wf f.mem:=fun i x d=>by
  obtain⟨b,a,rfl,rfl⟩:=s i x d;exact(K b a).1
 refine⟨f2.after,?_,rfl,zJ _,fun b a=>?_⟩
 .intro hw;obtain⟨E,S⟩:=hs e4;refine⟨⟨d7,fun i x d=>?_,fun i x F Q d=>?_,fun i x d=>?_⟩,fun φ2 M2 w b6 hR b5 hv b1=>?_⟩
  .rcases B i x d with⟨b,a,rfl,rfl⟩|h
   .exact .inr (a9 b a)
   .exact .inl ⟨x,h⟩
  .rcases B i x d with⟨b,a,rfl,rfl⟩|h
   .exact absurd (a9 b a) Q
   .exact h
  .show i<o;rcases B i x d with⟨b,a,rfl,rfl⟩|h
   .exact(a9 b a).2
   .exact zF (hw i x h) d7
  .have b1:∀i,n0<=i->i<o->φ2 i=none:=b1
   let φ:Phi:=fun b=>φ2 (ρ b)
   let M:AM:=fun i=>f.mem.b.get i
   have e5:∀b,φ b=φ2 (ρ b):=fun _=>rfl
   have a0:∀b∈f.pre,∃c,M2 (ρ b.i)=some (.cells c b.l.length b.e b.z)/\∀j v,j<b.l.length->(c.get j=some v↔(b.l.map (ren2 ρ))[j]?=some v):=fun b a=>by
    obtain⟨c,H,_,k2⟩:=ykl (b2 b a).2;rw[b.yil]at H;have el:(b.ren ρ).l.length=b.l.length:=zM ..;rw[el]at H k2;exact⟨c,b5 _ _ H,k2⟩
   have a6:∀{l:List Value}{j:Nat}{v:Value},l[j]?=some v->(l.map (ren2 ρ))[j]?=some (ren2 ρ v):=fun h=>by rw[zL,h];rfl
   have d2:Rel φ M w:=by
    refine⟨⟨fun i x d=>?_,fun i j x y li lj Z d hy O D=>?_⟩,fun z hz=>⟨(hR.gl z hz).1,fun⟨i,x,l,X,U,a3⟩=>(hR.gl z hz).2 (by
     obtain⟨b,a,rfl,rfl⟩:=s i x X;obtain⟨c,H,_⟩:=a0 b a;exact⟨_,_,l,H,U,a3⟩)⟩⟩
    .obtain⟨b,a,rfl,rfl⟩:=s i x d;obtain⟨c,H,k2⟩:=a0 b a;obtain⟨l,R,r2,r3,cs,qe,qf,q0,r4,r5,r6⟩:=hR.blk _ _ H;refine⟨l,R,r2,r3,cs,qe,qf,q0,r4,r5,fun j v m Y=>?_⟩;have e0:=ymj Y;obtain⟨v',s1,s2⟩:=r6 j _ m ((k2 j _ m).2 (a6 e0));exact⟨v',s1,(vr2 e5 (List.all_eq_true.1 (K b a).2 v (zG e0))).2 s2⟩
    .obtain⟨b,a,rfl,rfl⟩:=s i x d;obtain⟨c,hc,rfl,rfl⟩:=s j y hy;obtain⟨cb,H,_⟩:=a0 b a;obtain⟨cc,k2,_⟩:=a0 c hc;exact hR.inj _ _ _ _ li lj (fun q=>Z (by rw[d5 b a c hc q])) H k2 O D
   have d3:Sub f.mem M:=fun i x d=>d
   have e6:yht φ f.mem.next m'.next:=fun i L h2=>by
    rw[e1]at h2;have L:f.next0<=i:=L;show φ2 (ρ i)=none;rw[G i L h2];exact b1 _ (by omega) (by omega)
   refine(S φ M w b6 d2 d3 ((vrl2 e5 c2).2 hv) e6).mono ?_;rintro e w' ⟨v',rfl,I,M',n,f4⟩;have a7:∀i,¬(f.next0<=i/\i<f.next1)->I i=φ i:=fun i F=>n.out i (by rw[e1];exact F)
   have V:∀i,¬(f.next0<=i/\i<f.next1)->(f.mem.b.get i=none\/i<f.next0)->M' i=M i:=fun i F hn =>
    n.frame i (by rw[e1];exact F) (hn.imp id fun q=>by omega)
   let T:Phi:=fun j=>if n0<=j/\j<o then I (j-n0+f.next0)else φ2 j
   let M3:AM:=fun j=>if n0<=j/\j<o then f2.after.b.get j else M2 j
   have t:∀b,I b=T (ρ b):=fun b=>by
    by_cases a:f.next0<=b/\b<f.next1
    .have hr:=G b a.1 a.2;have:n0<=ρ b/\ρ b<o:=by rw[hr];omega
     show I b=if n0<=ρ b/\ρ b<o then I (ρ b-n0+f.next0)else φ2 (ρ b)
     rw[if_pos this,hr];congr 1;omega
    .have:¬(n0<=ρ b/\ρ b<o):=by rcases d9 b a with h|h<;>omega
     show I b=if n0<=ρ b/\ρ b<o then I (ρ b-n0+f.next0)else φ2 (ρ b)
     rw[if_neg this,a7 b a]
   have b4:φ2.le T:=fun j l m=>by
    have:¬(n0<=j/\j<o):=fun q=>by rw[b1 j q.1 q.2]at m;cases m
    show(if n0<=j/\j<o then I (j-n0+f.next0)else φ2 j)=some l
    rw[if_neg this];exact m
   have r:∀j,¬(n0<=j/\j<o)->T j=φ2 j:=fun j m=>if_neg m;have A:∀j,¬(n0<=j/\j<o)->M3 j=M2 j:=fun j m=>if_neg m;have b3:∀j,n0<=j/\j<o->M3 j=f2.after.b.get j:=fun j m=>if_pos m
   have J:∀j x,n0<=j/\j<o->M3 j=some x->∃b∈f.post,ρ b.i=j/\x=(b.ren ρ).blk:=fun j x m d=>by
    rw[b3 j m]at d;rcases B j x d with h|h
    .exact h
    .obtain⟨b,a,rfl,_⟩:=b8 j x h;have:=(b2 b a).1;omega
   have C:∀b∈f.post,∃l c,I b.i=some l/\M' b.i=some (.cells c b.l.length b.e b.z)/\BR T l w' (b.ren ρ).blk/\¬l.blk<w.heap.size:=fun b a=>by
    obtain⟨H,k2,c,k3,k4⟩:=a8 b a;have hM:=n.sub _ _ k3;obtain⟨l,R,r2,r3,cs,qe,qf,q0,r4,r5,r6⟩:=n.rel.blk _ _ hM;have el:(b.ren ρ).l.length=b.l.length:=zM ..;refine⟨l,c,R,hM,⟨r2,by rw[el];exact r3,cs,qe,qf,q0,r4,r5,fun j v m Y=>?_⟩,fun f0=>?_⟩
    .rw[el]at m;have Y:=ymj Y;have a4:(b.l.map (ren2 ρ))[j]?=some v:=Y;rw[zL]at a4;cases hq:b.l[j]? with
     |none=>rw[hq]at a4;cases a4
     | some u =>
       rw[hq]at a4;cases a4
       obtain⟨v',s1,s2⟩:=r6 j u m ((k4 j u m).2 hq);exact⟨v',s1,(vr2 t (List.all_eq_true.1 (W b a).2 u (zG hq))).1 s2⟩
    .obtain⟨i,x,l',X,U,a3⟩:=n.wg.img l.blk f0 ⟨_,_,l,hM,R,rfl⟩;obtain⟨p,hp,rfl,rfl⟩:=s i x X;have c0:=(K p hp).1;have Q:¬(f.next0<=p.i/\p.i<f.next1):=fun q=>by omega
     have b7:=V p.i Q (.inr c0);exact n.rel.inj p.i b.i _ _ l' l (by omega) (b7.trans X) hM ((a7 p.i Q).trans U) R a3
   have b9:∀j x l,¬(n0<=j/\j<o)->M2 j=some x->φ2 j=some l->BR T l w' x:=fun j x l m d hl=>by
    obtain⟨l0,q1,q2⟩:=hR.blk j x d;rw[hl]at q1;cases q1
    by_cases d4:Img φ M l.blk
    .obtain⟨i,y,l',X,U,a3⟩:=d4;obtain⟨p,hp,rfl,rfl⟩:=s i y X;obtain⟨c,H,k2⟩:=a0 p hp
     have e8:j=ρ p.i:=by
      apply zT;intro Z;exact hR.inj _ _ _ _ l l' Z d H hl U a3.symm
     subst e8;rw[H]at d;cases d
     have d1:φ2 (ρ p.i)=some l':=U;rw[hl]at d1;cases d1
     have c0:=(K p hp).1;have Q:¬(f.next0<=p.i/\p.i<f.next1):=fun q=>by omega
     have b7:=(V p.i Q (.inr c0)).trans X;obtain⟨l2,R,r2,r3,cs,qe,qf,q0,r4,r5,r6⟩:=n.rel.blk _ _ b7;rw[a7 p.i Q,U]at R;cases R
     refine⟨r2,r3,cs,qe,qf,q0,r4,r5,fun j v d6 Y=>?_⟩;have Y:=(k2 j v d6).1 Y;rw[zL]at Y;cases hq:p.l[j]? with
     |none=>rw[hq]at Y;cases Y
     | some u =>
       rw[hq]at Y;cases Y
       have f5:p.l.length<1000000:=by
        obtain⟨_,_,e9,_⟩:=ykl (b2 p hp).2;have el:(p.ren ρ).l.length=p.l.length:=zM ..
        rwa [el]at e9
       obtain⟨v',s1,s2⟩:=r6 j u d6 (by rw[ybys (by omega)];exact hq)
       exact⟨v',s1,(vr2 t (List.all_eq_true.1 (K p hp).2 u (zG hq))).1 s2⟩
    .exact(q2.keep (n.wg.keep _ q2.lt d4)).mono b4
   have a5:∀k,k<w.heap.size->Img T M3 k->Img φ2 M2 k:=fun k hk hq=>by
    obtain⟨i,x,l,X,U,rfl⟩:=hq
    by_cases F:n0<=i/\i<o
    .obtain⟨b,a,rfl,rfl⟩:=J i x F X;obtain⟨l',c,R,_,_,r4⟩:=C b a;rw[<-t,R]at U;cases U
     exact absurd hk r4
    .rw[A i F]at X;rw[r i F]at U;exact⟨i,x,l,X,U,rfl⟩
   refine⟨v',rfl,T,M3,⟨b4,r,⟨⟨fun j x d=>?_,fun i j x y li lj Z d hy O D=>?_⟩,fun z hz=>⟨(n.rel.gl z hz).1,fun q=>(hR.gl z hz).2 (a5 _ (Array.getElem?_eq_some_iff.1 (hR.gl z hz).1.choose_spec.choose_spec).1 q)⟩⟩,fun i x d=>?_,fun i F _=>A i F,⟨n.wg.os,n.wg.tape,n.wg.output,n.wg.size,fun k hk hn=>?_,fun k hk hq=>?_⟩⟩,vrV t c3 f4⟩
   .by_cases m:n0<=j/\j<o
    .obtain⟨b,a,rfl,rfl⟩:=J j x m d;obtain⟨l,c,R,_,r3,_⟩:=C b a;exact⟨l,by rw[<-t];exact R,r3⟩
    .rw[A j m]at d;obtain⟨l,q1,_⟩:=hR.blk j x d;exact⟨l,by rw[r j m];exact q1,b9 j x l m d q1⟩
   .by_cases F:n0<=i/\i<o
    .obtain⟨b,a,rfl,rfl⟩:=J i x F d;obtain⟨l,c,R,r2,_,r4⟩:=C b a;rw[<-t,R]at O;cases O
     by_cases m:n0<=j/\j<o
     .obtain⟨b',N,rfl,rfl⟩:=J j y m hy;obtain⟨l',c',s1,s2,_,_⟩:=C b' N;rw[<-t,s1]at D;cases D
      exact n.rel.inj _ _ _ _ _ _ (fun q=>Z (by rw[q])) r2 s2 R s1
     .rw[A j m]at hy;rw[r j m]at D;obtain⟨l',q1,q2⟩:=hR.blk j y hy;rw[D]at q1;cases q1
      exact fun q=>r4 (by rw[q];exact q2.lt)
    .rw[A i F]at d;rw[r i F]at O
     by_cases m:n0<=j/\j<o
     .obtain⟨b',N,rfl,rfl⟩:=J j y m hy;obtain⟨l',c',s1,s2,_,s4⟩:=C b' N;rw[<-t,s1]at D;cases D
      obtain⟨l0,q1,q2⟩:=hR.blk i x d;rw[O]at q1;cases q1
      exact fun q=>s4 (by rw[<-q];exact q2.lt)
     .rw[A j m]at hy;rw[r j m]at D;exact hR.inj i j x y li lj Z d hy O D
   .show M3 i=some x
    by_cases F:n0<=i/\i<o
    .rw[b3 i F];exact d
    .rw[A i F];rcases B i x d with⟨b,a,rfl,rfl⟩|h
     .exact absurd (a9 b a) F
     .exact b5 i x h
   .refine n.wg.keep k hk fun⟨i,x,l,X,U,a3⟩=>hn ?_;obtain⟨b,a,rfl,rfl⟩:=s i x X;obtain⟨c,H,_⟩:=a0 b a;exact⟨_,_,l,H,U,a3⟩
   .exact a5 k hk hq
 .obtain⟨b0,e7,rfl⟩:=List.mem_map.1 a;refine⟨?_,List.all_eq_true.1 c8 _ a⟩;show n0<=(b0.ren ρ).i;rw[b0.yil];exact(a9 b0 e7).1
end Ev
end
section
namespace Ev
def Lqii(n:Int):Value:=.int .i64 n
def LqiL:List Int->List Value
 |[]=>[]
 |n::l=>.int .i64 n::LqiL l
def LqiA(l:List Int):Array Value:=⟨LqiL l⟩
def Lqnx(g:Nat)(t:ByteArray)(a:Int)(n:Nat)(l:List Int)(e:Int)(m:Nat):Fact:=⟨g,[.string t,.int .i64 a],n,[],.tuple #[.agg (LqiA l),.int .i64 e],m,[],n⟩
def yc:ByteArray:=by8 [112,114,111,103,114,97,109,32,108,101,97,100,101,114,59,10,118,97,114,32,108,101,97,100,32,58,32,48,32,46,46,32,105,100,115,59,10,118,97,114,32,100,32,58,32,48,32,46,46,32,110,32,45,32,49,59,10,118,97,114,32,112,32,58,32,112,111,114,116,59,10,114,117,108,101,32,111,119,110,58,32,105,100,32,42,32,110,32,60,61,32,109,105,110,40,113,46,100,32,43,32,49,32,60,32,110,32,63,32,113,46,108,101,97,100,32,42,32,110,32,43,32,113,46,100,32,58,32,40,105,100,115,32,43,32,49,41,32,42,32,110,41,32,38,38,32,40,108,101,97,100,32,33,61,32,105,100,32,124,124,32,100,32,33,61,32,48,32,124,124,32,112,32,33,61,32,110,111,110,101,41,32,45,62,32,108,101,97,100,32,58,61,32,105,100,44,32,100,32,58,61,32,48,44,32,112,32,58,61,32,110,111,110,101,59,10,114,117,108,101,32,106,111,105,110,58,32,105,100,32,42,32,110,32,62,32,109,105,110,40,113,46,100,32,43,32,49,32,60,32,110,32,63,32,113,46,108,101,97,100,32,42,32,110,32,43,32,113,46,100,32,58,32,40,105,100,115,32,43,32,49,41,32,42,32,110,41,32,38,38,32,40,108,101,97,100,32,33,61,32,109,105,110,40,113,46,100,32,43,32,49,32,60,32,110,32,63,32,113,46,108,101,97,100,32,42,32,110,32,43,32,113,46,100,32,58,32,40,105,100,115,32,43,32,49,41,32,42,32,110,41,32,47,32,110,32,124,124,32,100,32,33,61,32,109,105,110,40,113,46,100,32,43,32,49,32,60,32,110,32,63,32,113,46,108,101,97,100,32,42,32,110,32,43,32,113,46,100,32,58,32,40,105,100,115,32,43,32,49,41,32,42,32,110,41,32,37,32,110,32,43,32,49,32,124,124,32,112,32,33,61,32,102,105,114,115,116,40,113,46,108,101,97,100,32,42,32,110,32,43,32,113,46,100,32,61,61,32,109,105,110,40,113,46,100,32,43,32,49,32,60,32,110,32,63,32,113,46,108,101,97,100,32,42,32,110,32,43,32,113,46,100,32,58,32,40,105,100,115,32,43,32,49,41,32,42,32,110,41,41,41,10,32,32,45,62,32,108,101,97,100,32,58,61,32,109,105,110,40,113,46,100,32,43,32,49,32,60,32,110,32,63,32,113,46,108,101,97,100,32,42,32,110,32,43,32,113,46,100,32,58,32,40,105,100,115,32,43,32,49,41,32,42,32,110,41,32,47,32,110,44,32,100,32,58,61,32,109,105,110,40,113,46,100,32,43,32,49,32,60,32,110,32,63,32,113,46,108,101,97,100,32,42,32,110,32,43,32,113,46,100,32,58,32,40,105,100,115,32,43,32,49,41,32,42,32,110,41,32,37,32,110,32,43,32,49,44,32,112,32,58,61,32,102,105,114,115,116,40,113,46,108,101,97,100,32,42,32,110,32,43,32,113,46,100,32,61,61,32,109,105,110,40,113,46,100,32,43,32,49,32,60,32,110,32,63,32,113,46,108,101,97,100,32,42,32,110,32,43,32,113,46,100,32,58,32,40,105,100,115,32,43,32,49,41,32,42,32,110,41,41,59,10]
def yfl:List Value:=(LqiL [1,0,7,0,1,8,14,0,3,14,15,0,1,16,19,0,1,20,24,0,3,25,26,0,2,27,28,0,3,29,31,0,1,32,35,0,3,35,36,0,1,37,40,0,1,41,42,0,3,43,44,0,2,45,46,0,3,47,49,0,1,50,51,0,3,52,53,0,2,54,55,1,3,55,56,0,1,57,60,0,1,61,62,0,3,63,64,0,1,65,69,0,3,69,70,0,1,71,75,0,1,76,79,0,3,79,80,0,1,81,83,0,3,84,85,0,1,86,87,0,3,88,90,0,1,91,94,0,3,94,95,0,1,95,96,0,3,96,97,0,1,97,98,0,3,99,100,0,2,101,102,1,3,103,104,0,1,105,106,0,3,107,108,0,1,109,110,0,3,110,111,0,1,111,115,0,3,116,117,0,1,118,119,0,3,120,121,0,1,122,123,0,3,123,124,0,1,124,125,0,3,126,127,0,3,128,129,0,1,129,132,0,3,133,134,0,2,135,136,1,3,136,137,0,3,138,139,0,1,140,141,0,3,141,142,0,3,143,145,0,3,146,147,0,1,147,151,0,3,152,154,0,1,155,157,0,3,158,160,0,1,161,162,0,3,163,165,0,2,166,167,0,3,168,170,0,1,171,172,0,3,173,175,0,1,176,180,0,3,180,181,0,3,182,184,0,1,185,189,0,3,190,192,0,1,193,195,0,3,195,196,0,1,197,198,0,3,199,201,0,2,202,203,0,3,203,204,0,1,205,206,0,3,207,209,0,1,210,214,0,3,214,215,0,1,216,220,0,1,221,225,0,3,225,226,0,1,227,229,0,3,230,231,0,1,232,233,0,3,234,235,0,1,236,239,0,3,239,240,0,1,240,241,0,3,241,242,0,1,242,243,0,3,244,245,0,2,246,247,1,3,248,249,0,1,250,251,0,3,252,253,0,1,254,255,0,3,255,256,0,1,256,260,0,3,261,262,0,1,263,264,0,3,265,266,0,1,267,268,0,3,268,269,0,1,269,270,0,3,271,272,0,3,273,274,0,1,274,277,0,3,278,279,0,2,280,281,1,3,281,282,0,3,283,284,0,1,285,286,0,3,286,287,0,3,288,290,0,3,291,292,0,1,292,296,0,3,297,299,0,1,300,303,0,3,303,304,0,1,304,305,0,3,305,306,0,1,306,307,0,3,308,309,0,2,310,311,1,3,312,313,0,1,314,315,0,3,316,317,0,1,318,319,0,3,319,320,0,1,320,324,0,3,325,326,0,1,327,328,0,3,329,330,0,1,331,332,0,3,332,333,0,1,333,334,0,3,335,336,0,3,337,338,0,1,338,341,0,3,342,343,0,2,344,345,1,3,345,346,0,3,347,348,0,1,349,350,0,3,350,351,0,3,352,353,0,1,354,355,0,3,356,358,0,1,359,360,0,3,361,363,0,1,364,367,0,3,367,368,0,1,368,369,0,3,369,370,0,1,370,371,0,3,372,373,0,2,374,375,1,3,376,377,0,1,378,379,0,3,380,381,0,1,382,383,0,3,383,384,0,1,384,388,0,3,389,390,0,1,391,392,0,3,393,394,0,1,395,396,0,3,396,397,0,1,397,398,0,3,399,400,0,3,401,402,0,1,402,405,0,3,406,407,0,2,408,409,1,3,409,410,0,3,411,412,0,1,413,414,0,3,414,415,0,3,416,417,0,1,418,419,0,3,420,421,0,2,422,423,1,3,424,426,0,1,427,428,0,3,429,431,0,1,432,437,0,3,437,438,0,1,438,439,0,3,439,440,0,1,440,444,0,3,445,446,0,1,447,448,0,3,449,450,0,1,451,452,0,3,452,453,0,1,453,454,0,3,455,457,0,1,458,461,0,3,461,462,0,1,462,463,0,3,463,464,0,1,464,465,0,3,466,467,0,2,468,469,1,3,470,471,0,1,472,473,0,3,474,475,0,1,476,477,0,3,477,478,0,1,478,482,0,3,483,484,0,1,485,486,0,3,487,488,0,1,489,490,0,3,490,491,0,1,491,492,0,3,493,494,0,3,495,496,0,1,496,499,0,3,500,501,0,2,502,503,1,3,503,504,0,3,505,506,0,1,507,508,0,3,508,509,0,3,509,510,0,3,510,511,0,3,514,516,0,1,517,521,0,3,522,524,0,1,525,528,0,3,528,529,0,1,529,530,0,3,530,531,0,1,531,532,0,3,533,534,0,2,535,536,1,3,537,538,0,1,539,540,0,3,541,542,0,1,543,544,0,3,544,545,0,1,545,549,0,3,550,551,0,1,552,553,0,3,554,555,0,1,556,557,0,3,557,558,0,1,558,559,0,3,560,561,0,3,562,563,0,1,563,566,0,3,567,568,0,2,569,570,1,3,570,571,0,3,572,573,0,1,574,575,0,3,575,576,0,3,577,578,0,1,579,580,0,3,580,581,0,1,582,583,0,3,584,586,0,1,587,590,0,3,590,591,0,1,591,592,0,3,592,593,0,1,593,594,0,3,595,596,0,2,597,598,1,3,599,600,0,1,601,602,0,3,603,604,0,1,605,606,0,3,606,607,0,1,607,611,0,3,612,613,0,1,614,615,0,3,616,617,0,1,618,619,0,3,619,620,0,1,620,621,0,3,622,623,0,3,624,625,0,1,625,628,0,3,629,630,0,2,631,632,1,3,632,633,0,3,634,635,0,1,636,637,0,3,637,638,0,3,639,640,0,1,641,642,0,3,643,644,0,2,645,646,1,3,646,647,0,1,648,649,0,3,650,652,0,1,653,658,0,3,658,659,0,1,659,660,0,3,660,661,0,1,661,665,0,3,666,667,0,1,668,669,0,3,670,671,0,1,672,673,0,3,673,674,0,1,674,675,0,3,676,678,0,1,679,682,0,3,682,683,0,1,683,684,0,3,684,685,0,1,685,686,0,3,687,688,0,2,689,690,1,3,691,692,0,1,693,694,0,3,695,696,0,1,697,698,0,3,698,699,0,1,699,703,0,3,704,705,0,1,706,707,0,3,708,709,0,1,710,711,0,3,711,712,0,1,712,713,0,3,714,715,0,3,716,717,0,1,717,720,0,3,721,722,0,2,723,724,1,3,724,725,0,3,726,727,0,1,728,729,0,3,729,730,0,3,730,731,0,3,731,732,0])
def ych:List Value:=(LqiL [41,0,38,0,30,0,8,0,6,0,24,0,43,0,37,0,33,0,12,1,1,1,6,0,33,0,30,0,12,0,6,0,12,1,30,0,33,0,7,0,1,1,6,0,42,0,42,0,36,0,5,0,8,0,36,0,5,1,1,0,36,0,5,2,4,0])
def yebu:List Value:=(LqiL [36,0,5,1,33,0,32,0,24,0,43,0,37,0,33,0,12,1,1,1,6,0,33,0,30,0,12,0,6,0,12,1,30,0,33,0,7,0,1,1,6,0,6,0,1,1])
def yor:List Value:=(LqiL [41,0,39,0,30,0,8,0,6,0,24,0,43,0,37,0,33,0,12,1,1,1,6,0,33,0,30,0,12,0,6,0,12,1,30,0,33,0,7,0,1,1,6,0,42,0,42,0,36,0,5,0,31,0,24,0,43,0,37,0,33,0,12,1,1,1,6,0,33,0,30,0,12,0,6,0,12,1,30,0,33,0,7,0,1,1,6,0,6,0,36,0,5,1,33,0,32,0,24,0,43,0,37,0,33,0,12,1,1,1,6,0,33,0,30,0,12,0,6,0,12,1,30,0,33,0,7,0,1,1,6,0,6,0,1,1,36,0,5,2,23,0,35,0,33,0,30,0,12,0,6,0,12,1,24,0,43,0,37,0,33,0,12,1,1,1,6,0,33,0,30,0,12,0,6,0,12,1,30,0,33,0,7,0,1,1,6,0])
def yui:List Value:=(LqiL [23,0,35,0,33,0,30,0,12,0,6,0,12,1,24,0,43,0,37,0,33,0,12,1,1,1,6,0,33,0,30,0,12,0,6,0,12,1,30,0,33,0,7,0,1,1,6,0])
def Lqb0:BlkL:=⟨2614,251,2,(LqiL [8,0])⟩
def Lqb1:BlkL:=⟨2631,251,2,(LqiL [1,0])⟩
def Lqb2:BlkL:=⟨2649,251,2,(LqiL [4,0])⟩
def Lqb3:BlkL:=⟨2656,203,2,[Lqii 0,.slice (some ⟨2614,0,none⟩) 1 1,Lqii 1,.slice (some ⟨2631,0,none⟩) 1 1,Lqii 2,.slice (some ⟨2649,0,none⟩) 1 1]⟩
def Lqb4:BlkL:=⟨3740,251,2,(LqiL [33,0,32,0,24,0,43,0,37,0,33,0,12,1,1,1,6,0,33,0,30,0,12,0,6,0,12,1,30,0,33,0,7,0,1,1,6,0,6,0,1,1])⟩
def Lqb5:BlkL:=⟨5152,3,1,(LqiL [1,1,3])⟩
def Lqb6:BlkL:=⟨3567,251,2,(LqiL [31,0,24,0,43,0,37,0,33,0,12,1,1,1,6,0,33,0,30,0,12,0,6,0,12,1,30,0,33,0,7,0,1,1,6,0,6,0])⟩
def Lqb7:BlkL:=⟨3955,203,2,[Lqii 0,.slice (some ⟨3567,0,none⟩) 19 CU,Lqii 1,.slice (some ⟨3740,0,none⟩) 21 CU,Lqii 2,.slice (some ⟨3948,0,none⟩) 24 CU]⟩
end Ev
end
section
namespace Ev
def yccf:Fact:=⟨166,[.agg #[.string (by8 [111,119,110]),.slice (some ⟨2601,0,none⟩) 33 CU,.slice (some ⟨2656,0,none⟩) 3 CU],.slice (some ⟨5152,0,none⟩) 3 3],5157,[⟨2601,251,2,ych⟩,Lqb0,Lqb1,Lqb2,Lqb3,Lqb5],.bool true,5525,[],5157⟩
def yeal:List Fact:=[yccf]
theorem ybin:yh yeal:=yh.seq yh.nil (by kernel_rfl)
def yead:List Fact:=[⟨219,[.agg #[.slice (some ⟨3411,0,none⟩) 94 CU,.slice (some ⟨5152,0,none⟩) 3 3],Lqii 0,.bool false],6092,[⟨3411,251,2,yor⟩,Lqb5],.tuple (LqiA [2,94]),6468,[],6092⟩]
theorem ycgk:yh yead:=yh.seq yh.nil (by kernel_rfl)
def yeem:List Fact:=[⟨203,[.slice (some ⟨3740,0,none⟩) 21 CU,.slice (some ⟨5152,0,none⟩) 3 3,.bool false],6661,[Lqb4,Lqb5],.tuple (LqiA [1,0]),6872,[],6661⟩]
theorem ycgw:yh yeem:=yh.seq yh.nil (by kernel_rfl)
end Ev
end
section
namespace Ev
def yehj:List Fact:=[⟨151,[.string yc,Lqii 0],2,[],Lqii 0,2,[],2⟩,Lqnx 152 yc 0 2 [1,0,7,0] 0 5,⟨151,[.string yc,Lqii 7],8,[],Lqii 8,8,[],8⟩,Lqnx 152 yc 8 8 [1,8,14,0] 0 11,Lqnx 152 yc 14 14 [3,14,15,0] 0 18,⟨151,[.string yc,Lqii 15],21,[],Lqii 16,21,[],21⟩,Lqnx 152 yc 16 21 [1,16,19,0] 0 24,⟨151,[.string yc,Lqii 19],27,[],Lqii 20,27,[],27⟩,Lqnx 152 yc 20 27 [1,20,24,0] 0 30,⟨151,[.string yc,Lqii 24],33,[],Lqii 25,33,[],33⟩,Lqnx 152 yc 25 33 [3,25,26,0] 0 37,⟨151,[.string yc,Lqii 26],40,[],Lqii 27,40,[],40⟩,Lqnx 152 yc 27 40 [2,27,28,0] 0 43,⟨151,[.string yc,Lqii 28],46,[],Lqii 29,46,[],46⟩,Lqnx 152 yc 29 46 [3,29,31,0] 0 50,⟨151,[.string yc,Lqii 31],53,[],Lqii 32,53,[],53⟩,Lqnx 152 yc 32 53 [1,32,35,0] 0 56,Lqnx 152 yc 35 59 [3,35,36,0] 0 63,⟨151,[.string yc,Lqii 36],66,[],Lqii 37,66,[],66⟩,Lqnx 152 yc 37 66 [1,37,40,0] 0 69]
theorem ycsb:yh yehj:=yh.seq yh.nil (by kernel_rfl)
def yejg:List Fact:=[⟨151,[.string yc,Lqii 40],72,[],Lqii 41,72,[],72⟩,Lqnx 152 yc 41 72 [1,41,42,0] 0 75,⟨151,[.string yc,Lqii 42],78,[],Lqii 43,78,[],78⟩,Lqnx 152 yc 43 78 [3,43,44,0] 0 82,⟨151,[.string yc,Lqii 44],85,[],Lqii 45,85,[],85⟩,Lqnx 152 yc 45 85 [2,45,46,0] 0 88,⟨151,[.string yc,Lqii 46],91,[],Lqii 47,91,[],91⟩,Lqnx 152 yc 47 91 [3,47,49,0] 0 95,⟨151,[.string yc,Lqii 49],98,[],Lqii 50,98,[],98⟩,Lqnx 152 yc 50 98 [1,50,51,0] 0 101,⟨151,[.string yc,Lqii 51],104,[],Lqii 52,104,[],104⟩,Lqnx 152 yc 52 104 [3,52,53,0] 0 108,⟨151,[.string yc,Lqii 53],111,[],Lqii 54,111,[],111⟩,Lqnx 152 yc 54 111 [2,54,55,1] 0 114,Lqnx 152 yc 55 117 [3,55,56,0] 0 121,⟨151,[.string yc,Lqii 56],124,[],Lqii 57,124,[],124⟩,Lqnx 152 yc 57 124 [1,57,60,0] 0 127,⟨151,[.string yc,Lqii 60],130,[],Lqii 61,130,[],130⟩,Lqnx 152 yc 61 130 [1,61,62,0] 0 133,⟨151,[.string yc,Lqii 62],136,[],Lqii 63,136,[],136⟩]
theorem ycnx:yh yejg:=yh.seq yh.nil (by kernel_rfl)
def yehq:List Fact:=[Lqnx 152 yc 63 136 [3,63,64,0] 0 140,⟨151,[.string yc,Lqii 64],143,[],Lqii 65,143,[],143⟩,Lqnx 152 yc 65 143 [1,65,69,0] 0 146,Lqnx 152 yc 69 149 [3,69,70,0] 0 153,⟨151,[.string yc,Lqii 70],156,[],Lqii 71,156,[],156⟩,Lqnx 152 yc 71 156 [1,71,75,0] 0 159,⟨151,[.string yc,Lqii 75],162,[],Lqii 76,162,[],162⟩,Lqnx 152 yc 76 162 [1,76,79,0] 0 165,Lqnx 152 yc 79 168 [3,79,80,0] 0 172,⟨151,[.string yc,Lqii 80],175,[],Lqii 81,175,[],175⟩,Lqnx 152 yc 81 175 [1,81,83,0] 0 178,⟨151,[.string yc,Lqii 83],181,[],Lqii 84,181,[],181⟩,Lqnx 152 yc 84 181 [3,84,85,0] 0 185,⟨151,[.string yc,Lqii 85],188,[],Lqii 86,188,[],188⟩,Lqnx 152 yc 86 188 [1,86,87,0] 0 191,⟨151,[.string yc,Lqii 87],194,[],Lqii 88,194,[],194⟩,Lqnx 152 yc 88 194 [3,88,90,0] 0 198,⟨151,[.string yc,Lqii 90],201,[],Lqii 91,201,[],201⟩,Lqnx 152 yc 91 201 [1,91,94,0] 0 204,Lqnx 152 yc 94 207 [3,94,95,0] 0 211]
theorem ycou:yh yehq:=yh.seq yh.nil (by kernel_rfl)
def yeiu:List Fact:=[Lqnx 152 yc 95 214 [1,95,96,0] 0 217,Lqnx 152 yc 96 220 [3,96,97,0] 0 224,Lqnx 152 yc 97 227 [1,97,98,0] 0 230,⟨151,[.string yc,Lqii 98],233,[],Lqii 99,233,[],233⟩,Lqnx 152 yc 99 233 [3,99,100,0] 0 237,⟨151,[.string yc,Lqii 100],240,[],Lqii 101,240,[],240⟩,Lqnx 152 yc 101 240 [2,101,102,1] 0 243,⟨151,[.string yc,Lqii 102],246,[],Lqii 103,246,[],246⟩,Lqnx 152 yc 103 246 [3,103,104,0] 0 250,⟨151,[.string yc,Lqii 104],253,[],Lqii 105,253,[],253⟩,Lqnx 152 yc 105 253 [1,105,106,0] 0 256,⟨151,[.string yc,Lqii 106],259,[],Lqii 107,259,[],259⟩,Lqnx 152 yc 107 259 [3,107,108,0] 0 263,⟨151,[.string yc,Lqii 108],266,[],Lqii 109,266,[],266⟩,Lqnx 152 yc 109 266 [1,109,110,0] 0 269,Lqnx 152 yc 110 272 [3,110,111,0] 0 276,Lqnx 152 yc 111 279 [1,111,115,0] 0 282,⟨151,[.string yc,Lqii 115],285,[],Lqii 116,285,[],285⟩,Lqnx 152 yc 116 285 [3,116,117,0] 0 289,⟨151,[.string yc,Lqii 117],292,[],Lqii 118,292,[],292⟩]
theorem ycmk:yh yeiu:=yh.seq yh.nil (by kernel_rfl)
def yejh:List Fact:=[Lqnx 152 yc 118 292 [1,118,119,0] 0 295,⟨151,[.string yc,Lqii 119],298,[],Lqii 120,298,[],298⟩,Lqnx 152 yc 120 298 [3,120,121,0] 0 302,⟨151,[.string yc,Lqii 121],305,[],Lqii 122,305,[],305⟩,Lqnx 152 yc 122 305 [1,122,123,0] 0 308,Lqnx 152 yc 123 311 [3,123,124,0] 0 315,Lqnx 152 yc 124 318 [1,124,125,0] 0 321,⟨151,[.string yc,Lqii 125],324,[],Lqii 126,324,[],324⟩,Lqnx 152 yc 126 324 [3,126,127,0] 0 328,⟨151,[.string yc,Lqii 127],331,[],Lqii 128,331,[],331⟩,Lqnx 152 yc 128 331 [3,128,129,0] 0 335,Lqnx 152 yc 129 338 [1,129,132,0] 0 341,⟨151,[.string yc,Lqii 132],344,[],Lqii 133,344,[],344⟩,Lqnx 152 yc 133 344 [3,133,134,0] 0 348,⟨151,[.string yc,Lqii 134],351,[],Lqii 135,351,[],351⟩,Lqnx 152 yc 135 351 [2,135,136,1] 0 354,Lqnx 152 yc 136 357 [3,136,137,0] 0 361,⟨151,[.string yc,Lqii 137],364,[],Lqii 138,364,[],364⟩,Lqnx 152 yc 138 364 [3,138,139,0] 0 368,⟨151,[.string yc,Lqii 139],371,[],Lqii 140,371,[],371⟩]
theorem ycop:yh yejh:=yh.seq yh.nil (by kernel_rfl)
def yeir:List Fact:=[Lqnx 152 yc 140 371 [1,140,141,0] 0 374,Lqnx 152 yc 141 377 [3,141,142,0] 0 381,⟨151,[.string yc,Lqii 142],384,[],Lqii 143,384,[],384⟩,Lqnx 152 yc 143 384 [3,143,145,0] 0 388,⟨151,[.string yc,Lqii 145],391,[],Lqii 146,391,[],391⟩,Lqnx 152 yc 146 391 [3,146,147,0] 0 395,Lqnx 152 yc 147 398 [1,147,151,0] 0 401,⟨151,[.string yc,Lqii 151],404,[],Lqii 152,404,[],404⟩,Lqnx 152 yc 152 404 [3,152,154,0] 0 408,⟨151,[.string yc,Lqii 154],411,[],Lqii 155,411,[],411⟩,Lqnx 152 yc 155 411 [1,155,157,0] 0 414,⟨151,[.string yc,Lqii 157],417,[],Lqii 158,417,[],417⟩,Lqnx 152 yc 158 417 [3,158,160,0] 0 421,⟨151,[.string yc,Lqii 160],424,[],Lqii 161,424,[],424⟩,Lqnx 152 yc 161 424 [1,161,162,0] 0 427,⟨151,[.string yc,Lqii 162],430,[],Lqii 163,430,[],430⟩,Lqnx 152 yc 163 430 [3,163,165,0] 0 434,⟨151,[.string yc,Lqii 165],437,[],Lqii 166,437,[],437⟩,Lqnx 152 yc 166 437 [2,166,167,0] 0 440,⟨151,[.string yc,Lqii 167],443,[],Lqii 168,443,[],443⟩]
theorem ycnf:yh yeir:=yh.seq yh.nil (by kernel_rfl)
def yehg:List Fact:=[Lqnx 152 yc 168 443 [3,168,170,0] 0 447,⟨151,[.string yc,Lqii 170],450,[],Lqii 171,450,[],450⟩,Lqnx 152 yc 171 450 [1,171,172,0] 0 453,⟨151,[.string yc,Lqii 172],456,[],Lqii 173,456,[],456⟩,Lqnx 152 yc 173 456 [3,173,175,0] 0 460,⟨151,[.string yc,Lqii 175],463,[],Lqii 176,463,[],463⟩,Lqnx 152 yc 176 463 [1,176,180,0] 0 466,Lqnx 152 yc 180 469 [3,180,181,0] 0 473,⟨151,[.string yc,Lqii 181],476,[],Lqii 182,476,[],476⟩,Lqnx 152 yc 182 476 [3,182,184,0] 0 480,⟨151,[.string yc,Lqii 184],483,[],Lqii 185,483,[],483⟩,Lqnx 152 yc 185 483 [1,185,189,0] 0 486,⟨151,[.string yc,Lqii 189],489,[],Lqii 190,489,[],489⟩,Lqnx 152 yc 190 489 [3,190,192,0] 0 493,⟨151,[.string yc,Lqii 192],496,[],Lqii 193,496,[],496⟩,Lqnx 152 yc 193 496 [1,193,195,0] 0 499,Lqnx 152 yc 195 502 [3,195,196,0] 0 506,⟨151,[.string yc,Lqii 196],509,[],Lqii 197,509,[],509⟩,Lqnx 152 yc 197 509 [1,197,198,0] 0 512,⟨151,[.string yc,Lqii 198],515,[],Lqii 199,515,[],515⟩]
theorem ycnk:yh yehg:=yh.seq yh.nil (by kernel_rfl)
def yehe:List Fact:=[Lqnx 152 yc 199 515 [3,199,201,0] 0 519,⟨151,[.string yc,Lqii 201],522,[],Lqii 202,522,[],522⟩,Lqnx 152 yc 202 522 [2,202,203,0] 0 525,Lqnx 152 yc 203 528 [3,203,204,0] 0 532,⟨151,[.string yc,Lqii 204],535,[],Lqii 205,535,[],535⟩,Lqnx 152 yc 205 535 [1,205,206,0] 0 538,⟨151,[.string yc,Lqii 206],541,[],Lqii 207,541,[],541⟩,Lqnx 152 yc 207 541 [3,207,209,0] 0 545,⟨151,[.string yc,Lqii 209],548,[],Lqii 210,548,[],548⟩,Lqnx 152 yc 210 548 [1,210,214,0] 0 551,Lqnx 152 yc 214 554 [3,214,215,0] 0 558,⟨151,[.string yc,Lqii 215],561,[],Lqii 216,561,[],561⟩,Lqnx 152 yc 216 561 [1,216,220,0] 0 564,⟨151,[.string yc,Lqii 220],567,[],Lqii 221,567,[],567⟩,Lqnx 152 yc 221 567 [1,221,225,0] 0 570,Lqnx 152 yc 225 573 [3,225,226,0] 0 577,⟨151,[.string yc,Lqii 226],580,[],Lqii 227,580,[],580⟩,Lqnx 152 yc 227 580 [1,227,229,0] 0 583,⟨151,[.string yc,Lqii 229],586,[],Lqii 230,586,[],586⟩,Lqnx 152 yc 230 586 [3,230,231,0] 0 590]
theorem ycqm:yh yehe:=yh.seq yh.nil (by kernel_rfl)
def yejn:List Fact:=[⟨151,[.string yc,Lqii 231],593,[],Lqii 232,593,[],593⟩,Lqnx 152 yc 232 593 [1,232,233,0] 0 596,⟨151,[.string yc,Lqii 233],599,[],Lqii 234,599,[],599⟩,Lqnx 152 yc 234 599 [3,234,235,0] 0 603,⟨151,[.string yc,Lqii 235],606,[],Lqii 236,606,[],606⟩,Lqnx 152 yc 236 606 [1,236,239,0] 0 609,Lqnx 152 yc 239 612 [3,239,240,0] 0 616,Lqnx 152 yc 240 619 [1,240,241,0] 0 622,Lqnx 152 yc 241 625 [3,241,242,0] 0 629,Lqnx 152 yc 242 632 [1,242,243,0] 0 635,⟨151,[.string yc,Lqii 243],638,[],Lqii 244,638,[],638⟩,Lqnx 152 yc 244 638 [3,244,245,0] 0 642,⟨151,[.string yc,Lqii 245],645,[],Lqii 246,645,[],645⟩,Lqnx 152 yc 246 645 [2,246,247,1] 0 648,⟨151,[.string yc,Lqii 247],651,[],Lqii 248,651,[],651⟩,Lqnx 152 yc 248 651 [3,248,249,0] 0 655,⟨151,[.string yc,Lqii 249],658,[],Lqii 250,658,[],658⟩,Lqnx 152 yc 250 658 [1,250,251,0] 0 661,⟨151,[.string yc,Lqii 251],664,[],Lqii 252,664,[],664⟩,Lqnx 152 yc 252 664 [3,252,253,0] 0 668]
theorem ycsh:yh yejn:=yh.seq yh.nil (by kernel_rfl)
def yehh:List Fact:=[⟨151,[.string yc,Lqii 253],671,[],Lqii 254,671,[],671⟩,Lqnx 152 yc 254 671 [1,254,255,0] 0 674,Lqnx 152 yc 255 677 [3,255,256,0] 0 681,Lqnx 152 yc 256 684 [1,256,260,0] 0 687,⟨151,[.string yc,Lqii 260],690,[],Lqii 261,690,[],690⟩,Lqnx 152 yc 261 690 [3,261,262,0] 0 694,⟨151,[.string yc,Lqii 262],697,[],Lqii 263,697,[],697⟩,Lqnx 152 yc 263 697 [1,263,264,0] 0 700,⟨151,[.string yc,Lqii 264],703,[],Lqii 265,703,[],703⟩,Lqnx 152 yc 265 703 [3,265,266,0] 0 707,⟨151,[.string yc,Lqii 266],710,[],Lqii 267,710,[],710⟩,Lqnx 152 yc 267 710 [1,267,268,0] 0 713,Lqnx 152 yc 268 716 [3,268,269,0] 0 720,Lqnx 152 yc 269 723 [1,269,270,0] 0 726,⟨151,[.string yc,Lqii 270],729,[],Lqii 271,729,[],729⟩,Lqnx 152 yc 271 729 [3,271,272,0] 0 733,⟨151,[.string yc,Lqii 272],736,[],Lqii 273,736,[],736⟩,Lqnx 152 yc 273 736 [3,273,274,0] 0 740,Lqnx 152 yc 274 743 [1,274,277,0] 0 746,⟨151,[.string yc,Lqii 277],749,[],Lqii 278,749,[],749⟩]
theorem ycod:yh yehh:=yh.seq yh.nil (by kernel_rfl)
end Ev
end
section
namespace Ev
def ydsi:List Fact:=[Lqnx 152 yc 278 749 [3,278,279,0] 0 753,⟨151,[.string yc,Lqii 279],756,[],Lqii 280,756,[],756⟩,Lqnx 152 yc 280 756 [2,280,281,1] 0 759,Lqnx 152 yc 281 762 [3,281,282,0] 0 766,⟨151,[.string yc,Lqii 282],769,[],Lqii 283,769,[],769⟩,Lqnx 152 yc 283 769 [3,283,284,0] 0 773,⟨151,[.string yc,Lqii 284],776,[],Lqii 285,776,[],776⟩,Lqnx 152 yc 285 776 [1,285,286,0] 0 779,Lqnx 152 yc 286 782 [3,286,287,0] 0 786,⟨151,[.string yc,Lqii 287],789,[],Lqii 288,789,[],789⟩,Lqnx 152 yc 288 789 [3,288,290,0] 0 793,⟨151,[.string yc,Lqii 290],796,[],Lqii 291,796,[],796⟩,Lqnx 152 yc 291 796 [3,291,292,0] 0 800,Lqnx 152 yc 292 803 [1,292,296,0] 0 806,⟨151,[.string yc,Lqii 296],809,[],Lqii 297,809,[],809⟩,Lqnx 152 yc 297 809 [3,297,299,0] 0 813,⟨151,[.string yc,Lqii 299],816,[],Lqii 300,816,[],816⟩,Lqnx 152 yc 300 816 [1,300,303,0] 0 819,Lqnx 152 yc 303 822 [3,303,304,0] 0 826,Lqnx 152 yc 304 829 [1,304,305,0] 0 832]
theorem ycbg:yh ydsi:=yh.seq yh.nil (by kernel_rfl)
def ydsn:List Fact:=[Lqnx 152 yc 305 835 [3,305,306,0] 0 839,Lqnx 152 yc 306 842 [1,306,307,0] 0 845,⟨151,[.string yc,Lqii 307],848,[],Lqii 308,848,[],848⟩,Lqnx 152 yc 308 848 [3,308,309,0] 0 852,⟨151,[.string yc,Lqii 309],855,[],Lqii 310,855,[],855⟩,Lqnx 152 yc 310 855 [2,310,311,1] 0 858,⟨151,[.string yc,Lqii 311],861,[],Lqii 312,861,[],861⟩,Lqnx 152 yc 312 861 [3,312,313,0] 0 865,⟨151,[.string yc,Lqii 313],868,[],Lqii 314,868,[],868⟩,Lqnx 152 yc 314 868 [1,314,315,0] 0 871,⟨151,[.string yc,Lqii 315],874,[],Lqii 316,874,[],874⟩,Lqnx 152 yc 316 874 [3,316,317,0] 0 878,⟨151,[.string yc,Lqii 317],881,[],Lqii 318,881,[],881⟩,Lqnx 152 yc 318 881 [1,318,319,0] 0 884,Lqnx 152 yc 319 887 [3,319,320,0] 0 891,Lqnx 152 yc 320 894 [1,320,324,0] 0 897,⟨151,[.string yc,Lqii 324],900,[],Lqii 325,900,[],900⟩,Lqnx 152 yc 325 900 [3,325,326,0] 0 904,⟨151,[.string yc,Lqii 326],907,[],Lqii 327,907,[],907⟩,Lqnx 152 yc 327 907 [1,327,328,0] 0 910]
theorem ycai:yh ydsn:=yh.seq yh.nil (by kernel_rfl)
def yebg:List Fact:=[⟨151,[.string yc,Lqii 328],913,[],Lqii 329,913,[],913⟩,Lqnx 152 yc 329 913 [3,329,330,0] 0 917,⟨151,[.string yc,Lqii 330],920,[],Lqii 331,920,[],920⟩,Lqnx 152 yc 331 920 [1,331,332,0] 0 923,Lqnx 152 yc 332 926 [3,332,333,0] 0 930,Lqnx 152 yc 333 933 [1,333,334,0] 0 936,⟨151,[.string yc,Lqii 334],939,[],Lqii 335,939,[],939⟩,Lqnx 152 yc 335 939 [3,335,336,0] 0 943,⟨151,[.string yc,Lqii 336],946,[],Lqii 337,946,[],946⟩,Lqnx 152 yc 337 946 [3,337,338,0] 0 950,Lqnx 152 yc 338 953 [1,338,341,0] 0 956,⟨151,[.string yc,Lqii 341],959,[],Lqii 342,959,[],959⟩,Lqnx 152 yc 342 959 [3,342,343,0] 0 963,⟨151,[.string yc,Lqii 343],966,[],Lqii 344,966,[],966⟩,Lqnx 152 yc 344 966 [2,344,345,1] 0 969,Lqnx 152 yc 345 972 [3,345,346,0] 0 976,⟨151,[.string yc,Lqii 346],979,[],Lqii 347,979,[],979⟩,Lqnx 152 yc 347 979 [3,347,348,0] 0 983,⟨151,[.string yc,Lqii 348],986,[],Lqii 349,986,[],986⟩,Lqnx 152 yc 349 986 [1,349,350,0] 0 989]
theorem ycfr:yh yebg:=yh.seq yh.nil (by kernel_rfl)
def ydzs:List Fact:=[Lqnx 152 yc 350 992 [3,350,351,0] 0 996,⟨151,[.string yc,Lqii 351],999,[],Lqii 352,999,[],999⟩,Lqnx 152 yc 352 999 [3,352,353,0] 0 1003,⟨151,[.string yc,Lqii 353],1006,[],Lqii 354,1006,[],1006⟩,Lqnx 152 yc 354 1006 [1,354,355,0] 0 1009,⟨151,[.string yc,Lqii 355],1012,[],Lqii 356,1012,[],1012⟩,Lqnx 152 yc 356 1012 [3,356,358,0] 0 1016,⟨151,[.string yc,Lqii 358],1019,[],Lqii 359,1019,[],1019⟩,Lqnx 152 yc 359 1019 [1,359,360,0] 0 1022,⟨151,[.string yc,Lqii 360],1025,[],Lqii 361,1025,[],1025⟩,Lqnx 152 yc 361 1025 [3,361,363,0] 0 1029,⟨151,[.string yc,Lqii 363],1032,[],Lqii 364,1032,[],1032⟩,Lqnx 152 yc 364 1032 [1,364,367,0] 0 1035,Lqnx 152 yc 367 1038 [3,367,368,0] 0 1042,Lqnx 152 yc 368 1045 [1,368,369,0] 0 1048,Lqnx 152 yc 369 1051 [3,369,370,0] 0 1055,Lqnx 152 yc 370 1058 [1,370,371,0] 0 1061,⟨151,[.string yc,Lqii 371],1064,[],Lqii 372,1064,[],1064⟩,Lqnx 152 yc 372 1064 [3,372,373,0] 0 1068,⟨151,[.string yc,Lqii 373],1071,[],Lqii 374,1071,[],1071⟩]
theorem ychr:yh ydzs:=yh.seq yh.nil (by kernel_rfl)
def ydsy:List Fact:=[Lqnx 152 yc 374 1071 [2,374,375,1] 0 1074,⟨151,[.string yc,Lqii 375],1077,[],Lqii 376,1077,[],1077⟩,Lqnx 152 yc 376 1077 [3,376,377,0] 0 1081,⟨151,[.string yc,Lqii 377],1084,[],Lqii 378,1084,[],1084⟩,Lqnx 152 yc 378 1084 [1,378,379,0] 0 1087,⟨151,[.string yc,Lqii 379],1090,[],Lqii 380,1090,[],1090⟩,Lqnx 152 yc 380 1090 [3,380,381,0] 0 1094,⟨151,[.string yc,Lqii 381],1097,[],Lqii 382,1097,[],1097⟩,Lqnx 152 yc 382 1097 [1,382,383,0] 0 1100,Lqnx 152 yc 383 1103 [3,383,384,0] 0 1107,Lqnx 152 yc 384 1110 [1,384,388,0] 0 1113,⟨151,[.string yc,Lqii 388],1116,[],Lqii 389,1116,[],1116⟩,Lqnx 152 yc 389 1116 [3,389,390,0] 0 1120,⟨151,[.string yc,Lqii 390],1123,[],Lqii 391,1123,[],1123⟩,Lqnx 152 yc 391 1123 [1,391,392,0] 0 1126,⟨151,[.string yc,Lqii 392],1129,[],Lqii 393,1129,[],1129⟩,Lqnx 152 yc 393 1129 [3,393,394,0] 0 1133,⟨151,[.string yc,Lqii 394],1136,[],Lqii 395,1136,[],1136⟩,Lqnx 152 yc 395 1136 [1,395,396,0] 0 1139,Lqnx 152 yc 396 1142 [3,396,397,0] 0 1146]
theorem ycch:yh ydsy:=yh.seq yh.nil (by kernel_rfl)
def yeci:List Fact:=[Lqnx 152 yc 397 1149 [1,397,398,0] 0 1152,⟨151,[.string yc,Lqii 398],1155,[],Lqii 399,1155,[],1155⟩,Lqnx 152 yc 399 1155 [3,399,400,0] 0 1159,⟨151,[.string yc,Lqii 400],1162,[],Lqii 401,1162,[],1162⟩,Lqnx 152 yc 401 1162 [3,401,402,0] 0 1166,Lqnx 152 yc 402 1169 [1,402,405,0] 0 1172,⟨151,[.string yc,Lqii 405],1175,[],Lqii 406,1175,[],1175⟩,Lqnx 152 yc 406 1175 [3,406,407,0] 0 1179,⟨151,[.string yc,Lqii 407],1182,[],Lqii 408,1182,[],1182⟩,Lqnx 152 yc 408 1182 [2,408,409,1] 0 1185,Lqnx 152 yc 409 1188 [3,409,410,0] 0 1192,⟨151,[.string yc,Lqii 410],1195,[],Lqii 411,1195,[],1195⟩,Lqnx 152 yc 411 1195 [3,411,412,0] 0 1199,⟨151,[.string yc,Lqii 412],1202,[],Lqii 413,1202,[],1202⟩,Lqnx 152 yc 413 1202 [1,413,414,0] 0 1205,Lqnx 152 yc 414 1208 [3,414,415,0] 0 1212,⟨151,[.string yc,Lqii 415],1215,[],Lqii 416,1215,[],1215⟩,Lqnx 152 yc 416 1215 [3,416,417,0] 0 1219,⟨151,[.string yc,Lqii 417],1222,[],Lqii 418,1222,[],1222⟩,Lqnx 152 yc 418 1222 [1,418,419,0] 0 1225]
theorem ycau:yh yeci:=yh.seq yh.nil (by kernel_rfl)
def yedx:List Fact:=[⟨151,[.string yc,Lqii 419],1228,[],Lqii 420,1228,[],1228⟩,Lqnx 152 yc 420 1228 [3,420,421,0] 0 1232,⟨151,[.string yc,Lqii 421],1235,[],Lqii 422,1235,[],1235⟩,Lqnx 152 yc 422 1235 [2,422,423,1] 0 1238,⟨151,[.string yc,Lqii 423],1241,[],Lqii 424,1241,[],1241⟩,Lqnx 152 yc 424 1241 [3,424,426,0] 0 1245,⟨151,[.string yc,Lqii 426],1248,[],Lqii 427,1248,[],1248⟩,Lqnx 152 yc 427 1248 [1,427,428,0] 0 1251,⟨151,[.string yc,Lqii 428],1254,[],Lqii 429,1254,[],1254⟩,Lqnx 152 yc 429 1254 [3,429,431,0] 0 1258,⟨151,[.string yc,Lqii 431],1261,[],Lqii 432,1261,[],1261⟩,Lqnx 152 yc 432 1261 [1,432,437,0] 0 1264,Lqnx 152 yc 437 1267 [3,437,438,0] 0 1271,Lqnx 152 yc 438 1274 [1,438,439,0] 0 1277,Lqnx 152 yc 439 1280 [3,439,440,0] 0 1284,Lqnx 152 yc 440 1287 [1,440,444,0] 0 1290,⟨151,[.string yc,Lqii 444],1293,[],Lqii 445,1293,[],1293⟩,Lqnx 152 yc 445 1293 [3,445,446,0] 0 1297,⟨151,[.string yc,Lqii 446],1300,[],Lqii 447,1300,[],1300⟩,Lqnx 152 yc 447 1300 [1,447,448,0] 0 1303]
theorem ychq:yh yedx:=yh.seq yh.nil (by kernel_rfl)
def ydzz:List Fact:=[⟨151,[.string yc,Lqii 448],1306,[],Lqii 449,1306,[],1306⟩,Lqnx 152 yc 449 1306 [3,449,450,0] 0 1310,⟨151,[.string yc,Lqii 450],1313,[],Lqii 451,1313,[],1313⟩,Lqnx 152 yc 451 1313 [1,451,452,0] 0 1316,Lqnx 152 yc 452 1319 [3,452,453,0] 0 1323,Lqnx 152 yc 453 1326 [1,453,454,0] 0 1329,⟨151,[.string yc,Lqii 454],1332,[],Lqii 455,1332,[],1332⟩,Lqnx 152 yc 455 1332 [3,455,457,0] 0 1336,⟨151,[.string yc,Lqii 457],1339,[],Lqii 458,1339,[],1339⟩,Lqnx 152 yc 458 1339 [1,458,461,0] 0 1342,Lqnx 152 yc 461 1345 [3,461,462,0] 0 1349,Lqnx 152 yc 462 1352 [1,462,463,0] 0 1355,Lqnx 152 yc 463 1358 [3,463,464,0] 0 1362,Lqnx 152 yc 464 1365 [1,464,465,0] 0 1368,⟨151,[.string yc,Lqii 465],1371,[],Lqii 466,1371,[],1371⟩,Lqnx 152 yc 466 1371 [3,466,467,0] 0 1375,⟨151,[.string yc,Lqii 467],1378,[],Lqii 468,1378,[],1378⟩,Lqnx 152 yc 468 1378 [2,468,469,1] 0 1381,⟨151,[.string yc,Lqii 469],1384,[],Lqii 470,1384,[],1384⟩,Lqnx 152 yc 470 1384 [3,470,471,0] 0 1388]
theorem ycfo:yh ydzz:=yh.seq yh.nil (by kernel_rfl)
def yecu:List Fact:=[⟨151,[.string yc,Lqii 471],1391,[],Lqii 472,1391,[],1391⟩,Lqnx 152 yc 472 1391 [1,472,473,0] 0 1394,⟨151,[.string yc,Lqii 473],1397,[],Lqii 474,1397,[],1397⟩,Lqnx 152 yc 474 1397 [3,474,475,0] 0 1401,⟨151,[.string yc,Lqii 475],1404,[],Lqii 476,1404,[],1404⟩,Lqnx 152 yc 476 1404 [1,476,477,0] 0 1407,Lqnx 152 yc 477 1410 [3,477,478,0] 0 1414,Lqnx 152 yc 478 1417 [1,478,482,0] 0 1420,⟨151,[.string yc,Lqii 482],1423,[],Lqii 483,1423,[],1423⟩,Lqnx 152 yc 483 1423 [3,483,484,0] 0 1427,⟨151,[.string yc,Lqii 484],1430,[],Lqii 485,1430,[],1430⟩,Lqnx 152 yc 485 1430 [1,485,486,0] 0 1433,⟨151,[.string yc,Lqii 486],1436,[],Lqii 487,1436,[],1436⟩,Lqnx 152 yc 487 1436 [3,487,488,0] 0 1440,⟨151,[.string yc,Lqii 488],1443,[],Lqii 489,1443,[],1443⟩,Lqnx 152 yc 489 1443 [1,489,490,0] 0 1446,Lqnx 152 yc 490 1449 [3,490,491,0] 0 1453,Lqnx 152 yc 491 1456 [1,491,492,0] 0 1459,⟨151,[.string yc,Lqii 492],1462,[],Lqii 493,1462,[],1462⟩,Lqnx 152 yc 493 1462 [3,493,494,0] 0 1466]
theorem ycga:yh yecu:=yh.seq yh.nil (by kernel_rfl)
def yeco:List Fact:=[⟨151,[.string yc,Lqii 494],1469,[],Lqii 495,1469,[],1469⟩,Lqnx 152 yc 495 1469 [3,495,496,0] 0 1473,Lqnx 152 yc 496 1476 [1,496,499,0] 0 1479,⟨151,[.string yc,Lqii 499],1482,[],Lqii 500,1482,[],1482⟩,Lqnx 152 yc 500 1482 [3,500,501,0] 0 1486,⟨151,[.string yc,Lqii 501],1489,[],Lqii 502,1489,[],1489⟩,Lqnx 152 yc 502 1489 [2,502,503,1] 0 1492,Lqnx 152 yc 503 1495 [3,503,504,0] 0 1499,⟨151,[.string yc,Lqii 504],1502,[],Lqii 505,1502,[],1502⟩,Lqnx 152 yc 505 1502 [3,505,506,0] 0 1506,⟨151,[.string yc,Lqii 506],1509,[],Lqii 507,1509,[],1509⟩,Lqnx 152 yc 507 1509 [1,507,508,0] 0 1512,Lqnx 152 yc 508 1515 [3,508,509,0] 0 1519,Lqnx 152 yc 509 1522 [3,509,510,0] 0 1526,Lqnx 152 yc 510 1529 [3,510,511,0] 0 1533,⟨151,[.string yc,Lqii 511],1536,[],Lqii 514,1536,[],1536⟩,Lqnx 152 yc 514 1536 [3,514,516,0] 0 1540,⟨151,[.string yc,Lqii 516],1543,[],Lqii 517,1543,[],1543⟩,Lqnx 152 yc 517 1543 [1,517,521,0] 0 1546,⟨151,[.string yc,Lqii 521],1549,[],Lqii 522,1549,[],1549⟩]
theorem ycee:yh yeco:=yh.seq yh.nil (by kernel_rfl)
end Ev
end
section
namespace Ev
def ydzn:List Fact:=[Lqnx 152 yc 522 1549 [3,522,524,0] 0 1553,⟨151,[.string yc,Lqii 524],1556,[],Lqii 525,1556,[],1556⟩,Lqnx 152 yc 525 1556 [1,525,528,0] 0 1559,Lqnx 152 yc 528 1562 [3,528,529,0] 0 1566,Lqnx 152 yc 529 1569 [1,529,530,0] 0 1572,Lqnx 152 yc 530 1575 [3,530,531,0] 0 1579,Lqnx 152 yc 531 1582 [1,531,532,0] 0 1585,⟨151,[.string yc,Lqii 532],1588,[],Lqii 533,1588,[],1588⟩,Lqnx 152 yc 533 1588 [3,533,534,0] 0 1592,⟨151,[.string yc,Lqii 534],1595,[],Lqii 535,1595,[],1595⟩,Lqnx 152 yc 535 1595 [2,535,536,1] 0 1598,⟨151,[.string yc,Lqii 536],1601,[],Lqii 537,1601,[],1601⟩,Lqnx 152 yc 537 1601 [3,537,538,0] 0 1605,⟨151,[.string yc,Lqii 538],1608,[],Lqii 539,1608,[],1608⟩,Lqnx 152 yc 539 1608 [1,539,540,0] 0 1611,⟨151,[.string yc,Lqii 540],1614,[],Lqii 541,1614,[],1614⟩,Lqnx 152 yc 541 1614 [3,541,542,0] 0 1618,⟨151,[.string yc,Lqii 542],1621,[],Lqii 543,1621,[],1621⟩,Lqnx 152 yc 543 1621 [1,543,544,0] 0 1624,Lqnx 152 yc 544 1627 [3,544,545,0] 0 1631]
theorem ybxu:yh ydzn:=yh.seq yh.nil (by kernel_rfl)
def ydxd:List Fact:=[Lqnx 152 yc 545 1634 [1,545,549,0] 0 1637,⟨151,[.string yc,Lqii 549],1640,[],Lqii 550,1640,[],1640⟩,Lqnx 152 yc 550 1640 [3,550,551,0] 0 1644,⟨151,[.string yc,Lqii 551],1647,[],Lqii 552,1647,[],1647⟩,Lqnx 152 yc 552 1647 [1,552,553,0] 0 1650,⟨151,[.string yc,Lqii 553],1653,[],Lqii 554,1653,[],1653⟩,Lqnx 152 yc 554 1653 [3,554,555,0] 0 1657,⟨151,[.string yc,Lqii 555],1660,[],Lqii 556,1660,[],1660⟩,Lqnx 152 yc 556 1660 [1,556,557,0] 0 1663,Lqnx 152 yc 557 1666 [3,557,558,0] 0 1670,Lqnx 152 yc 558 1673 [1,558,559,0] 0 1676,⟨151,[.string yc,Lqii 559],1679,[],Lqii 560,1679,[],1679⟩,Lqnx 152 yc 560 1679 [3,560,561,0] 0 1683,⟨151,[.string yc,Lqii 561],1686,[],Lqii 562,1686,[],1686⟩,Lqnx 152 yc 562 1686 [3,562,563,0] 0 1690,Lqnx 152 yc 563 1693 [1,563,566,0] 0 1696,⟨151,[.string yc,Lqii 566],1699,[],Lqii 567,1699,[],1699⟩,Lqnx 152 yc 567 1699 [3,567,568,0] 0 1703,⟨151,[.string yc,Lqii 568],1706,[],Lqii 569,1706,[],1706⟩,Lqnx 152 yc 569 1706 [2,569,570,1] 0 1709]
theorem yccs:yh ydxd:=yh.seq yh.nil (by kernel_rfl)
def ydue:List Fact:=[Lqnx 152 yc 570 1712 [3,570,571,0] 0 1716,⟨151,[.string yc,Lqii 571],1719,[],Lqii 572,1719,[],1719⟩,Lqnx 152 yc 572 1719 [3,572,573,0] 0 1723,⟨151,[.string yc,Lqii 573],1726,[],Lqii 574,1726,[],1726⟩,Lqnx 152 yc 574 1726 [1,574,575,0] 0 1729,Lqnx 152 yc 575 1732 [3,575,576,0] 0 1736,⟨151,[.string yc,Lqii 576],1739,[],Lqii 577,1739,[],1739⟩,Lqnx 152 yc 577 1739 [3,577,578,0] 0 1743,⟨151,[.string yc,Lqii 578],1746,[],Lqii 579,1746,[],1746⟩,Lqnx 152 yc 579 1746 [1,579,580,0] 0 1749,Lqnx 152 yc 580 1752 [3,580,581,0] 0 1756,⟨151,[.string yc,Lqii 581],1759,[],Lqii 582,1759,[],1759⟩,Lqnx 152 yc 582 1759 [1,582,583,0] 0 1762,⟨151,[.string yc,Lqii 583],1765,[],Lqii 584,1765,[],1765⟩,Lqnx 152 yc 584 1765 [3,584,586,0] 0 1769,⟨151,[.string yc,Lqii 586],1772,[],Lqii 587,1772,[],1772⟩,Lqnx 152 yc 587 1772 [1,587,590,0] 0 1775,Lqnx 152 yc 590 1778 [3,590,591,0] 0 1782,Lqnx 152 yc 591 1785 [1,591,592,0] 0 1788,Lqnx 152 yc 592 1791 [3,592,593,0] 0 1795]
theorem ycfd:yh ydue:=yh.seq yh.nil (by kernel_rfl)
def yeat:List Fact:=[Lqnx 152 yc 593 1798 [1,593,594,0] 0 1801,⟨151,[.string yc,Lqii 594],1804,[],Lqii 595,1804,[],1804⟩,Lqnx 152 yc 595 1804 [3,595,596,0] 0 1808,⟨151,[.string yc,Lqii 596],1811,[],Lqii 597,1811,[],1811⟩,Lqnx 152 yc 597 1811 [2,597,598,1] 0 1814,⟨151,[.string yc,Lqii 598],1817,[],Lqii 599,1817,[],1817⟩,Lqnx 152 yc 599 1817 [3,599,600,0] 0 1821,⟨151,[.string yc,Lqii 600],1824,[],Lqii 601,1824,[],1824⟩,Lqnx 152 yc 601 1824 [1,601,602,0] 0 1827,⟨151,[.string yc,Lqii 602],1830,[],Lqii 603,1830,[],1830⟩,Lqnx 152 yc 603 1830 [3,603,604,0] 0 1834,⟨151,[.string yc,Lqii 604],1837,[],Lqii 605,1837,[],1837⟩,Lqnx 152 yc 605 1837 [1,605,606,0] 0 1840,Lqnx 152 yc 606 1843 [3,606,607,0] 0 1847,Lqnx 152 yc 607 1850 [1,607,611,0] 0 1853,⟨151,[.string yc,Lqii 611],1856,[],Lqii 612,1856,[],1856⟩,Lqnx 152 yc 612 1856 [3,612,613,0] 0 1860,⟨151,[.string yc,Lqii 613],1863,[],Lqii 614,1863,[],1863⟩,Lqnx 152 yc 614 1863 [1,614,615,0] 0 1866,⟨151,[.string yc,Lqii 615],1869,[],Lqii 616,1869,[],1869⟩]
theorem ycdj:yh yeat:=yh.seq yh.nil (by kernel_rfl)
def ydrc:List Fact:=[Lqnx 152 yc 616 1869 [3,616,617,0] 0 1873,⟨151,[.string yc,Lqii 617],1876,[],Lqii 618,1876,[],1876⟩,Lqnx 152 yc 618 1876 [1,618,619,0] 0 1879,Lqnx 152 yc 619 1882 [3,619,620,0] 0 1886,Lqnx 152 yc 620 1889 [1,620,621,0] 0 1892,⟨151,[.string yc,Lqii 621],1895,[],Lqii 622,1895,[],1895⟩,Lqnx 152 yc 622 1895 [3,622,623,0] 0 1899,⟨151,[.string yc,Lqii 623],1902,[],Lqii 624,1902,[],1902⟩,Lqnx 152 yc 624 1902 [3,624,625,0] 0 1906,Lqnx 152 yc 625 1909 [1,625,628,0] 0 1912,⟨151,[.string yc,Lqii 628],1915,[],Lqii 629,1915,[],1915⟩,Lqnx 152 yc 629 1915 [3,629,630,0] 0 1919,⟨151,[.string yc,Lqii 630],1922,[],Lqii 631,1922,[],1922⟩,Lqnx 152 yc 631 1922 [2,631,632,1] 0 1925,Lqnx 152 yc 632 1928 [3,632,633,0] 0 1932,⟨151,[.string yc,Lqii 633],1935,[],Lqii 634,1935,[],1935⟩,Lqnx 152 yc 634 1935 [3,634,635,0] 0 1939,Lqnx 152 yc 636 1942 [1,636,637,0] 0 1945,Lqnx 152 yc 637 1948 [3,637,638,0] 0 1952,Lqnx 152 yc 639 1955 [3,639,640,0] 0 1959]
theorem ycjt:yh ydrc:=yh.seq yh.nil (by kernel_rfl)
def ydvd:List Fact:=[Lqnx 152 yc 641 1962 [1,641,642,0] 0 1965,Lqnx 152 yc 643 1968 [3,643,644,0] 0 1972,Lqnx 152 yc 645 1975 [2,645,646,1] 0 1978,Lqnx 152 yc 646 1981 [3,646,647,0] 0 1985,Lqnx 152 yc 648 1988 [1,648,649,0] 0 1991,Lqnx 152 yc 650 1994 [3,650,652,0] 0 1998,Lqnx 152 yc 653 2001 [1,653,658,0] 0 2004,Lqnx 152 yc 658 2007 [3,658,659,0] 0 2011,Lqnx 152 yc 659 2014 [1,659,660,0] 0 2017,Lqnx 152 yc 660 2020 [3,660,661,0] 0 2024,Lqnx 152 yc 661 2027 [1,661,665,0] 0 2030,Lqnx 152 yc 666 2033 [3,666,667,0] 0 2037,Lqnx 152 yc 668 2040 [1,668,669,0] 0 2043,Lqnx 152 yc 670 2046 [3,670,671,0] 0 2050,Lqnx 152 yc 672 2053 [1,672,673,0] 0 2056,Lqnx 152 yc 673 2059 [3,673,674,0] 0 2063,Lqnx 152 yc 674 2066 [1,674,675,0] 0 2069,Lqnx 152 yc 676 2072 [3,676,678,0] 0 2076,Lqnx 152 yc 679 2079 [1,679,682,0] 0 2082,Lqnx 152 yc 682 2085 [3,682,683,0] 0 2089]
theorem ycbl:yh ydvd:=yh.seq yh.nil (by kernel_rfl)
def yduy:List Fact:=[Lqnx 152 yc 683 2092 [1,683,684,0] 0 2095,Lqnx 152 yc 684 2098 [3,684,685,0] 0 2102,Lqnx 152 yc 685 2105 [1,685,686,0] 0 2108,Lqnx 152 yc 687 2111 [3,687,688,0] 0 2115,Lqnx 152 yc 689 2118 [2,689,690,1] 0 2121,Lqnx 152 yc 691 2124 [3,691,692,0] 0 2128,Lqnx 152 yc 693 2131 [1,693,694,0] 0 2134,Lqnx 152 yc 695 2137 [3,695,696,0] 0 2141,Lqnx 152 yc 697 2144 [1,697,698,0] 0 2147,Lqnx 152 yc 698 2150 [3,698,699,0] 0 2154,Lqnx 152 yc 699 2157 [1,699,703,0] 0 2160,Lqnx 152 yc 704 2163 [3,704,705,0] 0 2167,Lqnx 152 yc 706 2170 [1,706,707,0] 0 2173,Lqnx 152 yc 708 2176 [3,708,709,0] 0 2180,Lqnx 152 yc 710 2183 [1,710,711,0] 0 2186,Lqnx 152 yc 711 2189 [3,711,712,0] 0 2193,Lqnx 152 yc 712 2196 [1,712,713,0] 0 2199,Lqnx 152 yc 714 2202 [3,714,715,0] 0 2206,Lqnx 152 yc 716 2209 [3,716,717,0] 0 2213,Lqnx 152 yc 717 2216 [1,717,720,0] 0 2219]
theorem ycbx:yh yduy:=yh.seq yh.nil (by kernel_rfl)
def yefg:List Fact:=[Lqnx 152 yc 721 2222 [3,721,722,0] 0 2226,Lqnx 152 yc 723 2229 [2,723,724,1] 0 2232,Lqnx 152 yc 724 2235 [3,724,725,0] 0 2239,Lqnx 152 yc 726 2242 [3,726,727,0] 0 2246,Lqnx 152 yc 728 2249 [1,728,729,0] 0 2252,Lqnx 152 yc 729 2255 [3,729,730,0] 0 2259,Lqnx 152 yc 730 2262 [3,730,731,0] 0 2266,Lqnx 152 yc 731 2269 [3,731,732,0] 0 2273]
theorem ybxk:yh yefg:=yh.seq yh.nil (by kernel_rfl)
def yegf:List Fact:=[⟨198,[.pointer (some ⟨2276,0,none⟩)],2455,[⟨2275,178,4,yfl⟩,⟨2276,144,0,[.string yc,.slice (some ⟨2275,204,none⟩) 297 CU,.slice (some ⟨2337,0,none⟩) 3 CU,.string (by8 [108,101,97,100,101,114]),.slice (some ⟨2339,0,none⟩) 3 CU,.slice none 0 0,.slice (some ⟨2346,0,none⟩) 1 CU]⟩,⟨2337,9,1,[.string (by8 [108,101,97,100]),.string (by8 [100]),.string (by8 [112])]⟩,⟨2339,160,6,[.string (by8 [108,101,97,100]),Lqii 1,Lqii 0,Lqii 0,Lqii 0,Lqii 1,.string (by8 [100]),Lqii 1,Lqii 0,Lqii (-1),Lqii 1,Lqii 0,.string (by8 [112]),Lqii 3,Lqii 0,Lqii 0,Lqii 0,Lqii 0]⟩,⟨2346,9,1,[.string (by8 [111,119,110])]⟩],.slice (some ⟨2489,0,none⟩) 5 CU,2495,[⟨2276,144,0,[.string yc,.slice (some ⟨2275,232,none⟩) 290 CU,.slice (some ⟨2337,0,none⟩) 3 CU,.string (by8 [108,101,97,100,101,114]),.slice (some ⟨2339,0,none⟩) 3 CU,.slice none 0 0,.slice (some ⟨2346,0,none⟩) 1 CU]⟩,⟨2337,9,1,[.string (by8 [108,101,97,100]),.string (by8 [100]),.string (by8 [112])]⟩,⟨2339,160,6,[.string (by8 [108,101,97,100]),Lqii 1,Lqii 0,Lqii 0,Lqii 0,Lqii 1,.string (by8 [100]),Lqii 1,Lqii 0,Lqii (-1),Lqii 1,Lqii 0,.string (by8 [112]),Lqii 3,Lqii 0,Lqii 0,Lqii 0,Lqii 0]⟩,⟨2346,9,1,[.string (by8 [111,119,110])]⟩,⟨2489,251,2,(LqiL [30,0,33,0,7,0,1,1,6,0])⟩],2276⟩]
theorem ycew:yh yegf:=yh.seq yh.nil (by kernel_rfl)
def ydyl:List Fact:=[⟨198,[.pointer (some ⟨2276,0,none⟩)],2776,[⟨2275,178,4,yfl⟩,⟨2276,144,0,[.string yc,.slice (some ⟨2275,452,none⟩) 235 CU,.slice (some ⟨2337,0,none⟩) 3 CU,.string (by8 [108,101,97,100,101,114]),.slice (some ⟨2339,0,none⟩) 3 CU,.slice (some ⟨2660,0,none⟩) 1 CU,.slice (some ⟨2667,0,none⟩) 2 CU]⟩,⟨2337,9,1,[.string (by8 [108,101,97,100]),.string (by8 [100]),.string (by8 [112])]⟩,⟨2339,160,6,[.string (by8 [108,101,97,100]),Lqii 1,Lqii 0,Lqii 0,Lqii 0,Lqii 1,.string (by8 [100]),Lqii 1,Lqii 0,Lqii (-1),Lqii 1,Lqii 0,.string (by8 [112]),Lqii 3,Lqii 0,Lqii 0,Lqii 0,Lqii 0]⟩,⟨2601,251,2,ych⟩,Lqb0,Lqb1,Lqb2,Lqb3,⟨2660,193,3,[.string (by8 [111,119,110]),.slice (some ⟨2601,0,none⟩) 33 CU,.slice (some ⟨2656,0,none⟩) 3 CU]⟩,⟨2667,9,1,[.string (by8 [111,119,110]),.string (by8 [106,111,105,110])]⟩],.slice (some ⟨2810,0,none⟩) 5 CU,2816,[⟨2276,144,0,[.string yc,.slice (some ⟨2275,480,none⟩) 228 CU,.slice (some ⟨2337,0,none⟩) 3 CU,.string (by8 [108,101,97,100,101,114]),.slice (some ⟨2339,0,none⟩) 3 CU,.slice (some ⟨2660,0,none⟩) 1 CU,.slice (some ⟨2667,0,none⟩) 2 CU]⟩,⟨2337,9,1,[.string (by8 [108,101,97,100]),.string (by8 [100]),.string (by8 [112])]⟩,⟨2339,160,6,[.string (by8 [108,101,97,100]),Lqii 1,Lqii 0,Lqii 0,Lqii 0,Lqii 1,.string (by8 [100]),Lqii 1,Lqii 0,Lqii (-1),Lqii 1,Lqii 0,.string (by8 [112]),Lqii 3,Lqii 0,Lqii 0,Lqii 0,Lqii 0]⟩,⟨2601,251,2,ych⟩,Lqb0,Lqb1,Lqb2,Lqb3,⟨2660,193,3,[.string (by8 [111,119,110]),.slice (some ⟨2601,0,none⟩) 33 CU,.slice (some ⟨2656,0,none⟩) 3 CU]⟩,⟨2667,9,1,[.string (by8 [111,119,110]),.string (by8 [106,111,105,110])]⟩,⟨2810,251,2,(LqiL [30,0,33,0,7,0,1,1,6,0])⟩],2276⟩]
theorem ycis:yh ydyl:=yh.seq yh.nil (by kernel_rfl)
end Ev
end
section
namespace Ev
def ydzg:List Fact:=[⟨117,[.string yc],2,[],.tuple #[.slice (some ⟨2275,0,none⟩) 348 CU,Lqii 0,Lqii 0],2276,[⟨2275,178,4,yfl⟩],2⟩]
theorem ycbz:yh ydzg:=yh.one (ybp.cons (n:=66) ycsb (ybp.cons (n:=136) ycnx (ybp.cons (n:=207) ycou (ybp.cons (n:=292) ycmk (ybp.cons (n:=371) ycop (ybp.cons (n:=443) ycnf (ybp.cons (n:=515) ycnk (ybp.cons (n:=586) ycqm (ybp.cons (n:=664) ycsh (ybp.cons (n:=749) ycod (ybp.cons (n:=829) ycbg (ybp.cons (n:=907) ycai (ybp.cons (n:=986) ycfr (ybp.cons (n:=1071) ychr (ybp.cons (n:=1142) ycch (ybp.cons (n:=1222) ycau (ybp.cons (n:=1300) ychq (ybp.cons (n:=1384) ycfo (ybp.cons (n:=1462) ycga (ybp.cons (n:=1549) ycee (ybp.cons (n:=1627) ybxu (ybp.cons (n:=1706) yccs (ybp.cons (n:=1791) ycfd (ybp.cons (n:=1869) ycdj (ybp.cons (n:=1955) ycjt (ybp.cons (n:=2085) ycbl (ybp.cons (n:=2216) ycbx (ybp.cons (n:=2269) ybxk ybp.nil)))))))))))))))))))))))))))) (by kernel_rfl)
def ydry:List Fact:=[⟨212,[.pointer (some ⟨2276,0,none⟩),Lqii 3],2349,[⟨2275,178,4,yfl⟩,⟨2276,144,0,[.string yc,.slice (some ⟨2275,108,none⟩) 321 CU,.slice (some ⟨2337,0,none⟩) 3 CU,.string (by8 [108,101,97,100,101,114]),.slice (some ⟨2339,0,none⟩) 3 CU,.slice none 0 0,.slice (some ⟨2346,0,none⟩) 1 CU]⟩,⟨2337,9,1,[.string (by8 [108,101,97,100]),.string (by8 [100]),.string (by8 [112])]⟩,⟨2339,160,6,[.string (by8 [108,101,97,100]),Lqii 1,Lqii 0,Lqii 0,Lqii 0,Lqii 1,.string (by8 [100]),Lqii 1,Lqii 0,Lqii (-1),Lqii 1,Lqii 0,.string (by8 [112]),Lqii 3,Lqii 0,Lqii 0,Lqii 0,Lqii 0]⟩,⟨2346,9,1,[.string (by8 [111,119,110])]⟩],.slice (some ⟨2510,0,none⟩) 21 CU,2511,[⟨2276,144,0,[.string yc,.slice (some ⟨2275,236,none⟩) 289 CU,.slice (some ⟨2337,0,none⟩) 3 CU,.string (by8 [108,101,97,100,101,114]),.slice (some ⟨2339,0,none⟩) 3 CU,.slice none 0 0,.slice (some ⟨2346,0,none⟩) 1 CU]⟩,⟨2337,9,1,[.string (by8 [108,101,97,100]),.string (by8 [100]),.string (by8 [112])]⟩,⟨2339,160,6,[.string (by8 [108,101,97,100]),Lqii 1,Lqii 0,Lqii 0,Lqii 0,Lqii 1,.string (by8 [100]),Lqii 1,Lqii 0,Lqii (-1),Lqii 1,Lqii 0,.string (by8 [112]),Lqii 3,Lqii 0,Lqii 0,Lqii 0,Lqii 0]⟩,⟨2346,9,1,[.string (by8 [111,119,110])]⟩,⟨2510,251,2,(LqiL [38,0,30,0,8,0,6,0,24,0,43,0,37,0,33,0,12,1,1,1,6,0,33,0,30,0,12,0,6,0,12,1,30,0,33,0,7,0,1,1,6,0])⟩],2276⟩]
theorem yceu:yh ydry:=yh.seq ycew (by kernel_rfl)
def ydui:List Fact:=[⟨212,[.pointer (some ⟨2276,0,none⟩),Lqii 3],2670,[⟨2275,178,4,yfl⟩,⟨2276,144,0,[.string yc,.slice (some ⟨2275,356,none⟩) 259 CU,.slice (some ⟨2337,0,none⟩) 3 CU,.string (by8 [108,101,97,100,101,114]),.slice (some ⟨2339,0,none⟩) 3 CU,.slice (some ⟨2660,0,none⟩) 1 CU,.slice (some ⟨2667,0,none⟩) 2 CU]⟩,⟨2337,9,1,[.string (by8 [108,101,97,100]),.string (by8 [100]),.string (by8 [112])]⟩,⟨2339,160,6,[.string (by8 [108,101,97,100]),Lqii 1,Lqii 0,Lqii 0,Lqii 0,Lqii 1,.string (by8 [100]),Lqii 1,Lqii 0,Lqii (-1),Lqii 1,Lqii 0,.string (by8 [112]),Lqii 3,Lqii 0,Lqii 0,Lqii 0,Lqii 0]⟩,⟨2601,251,2,ych⟩,Lqb0,Lqb1,Lqb2,Lqb3,⟨2660,193,3,[.string (by8 [111,119,110]),.slice (some ⟨2601,0,none⟩) 33 CU,.slice (some ⟨2656,0,none⟩) 3 CU]⟩,⟨2667,9,1,[.string (by8 [111,119,110]),.string (by8 [106,111,105,110])]⟩],.slice (some ⟨2831,0,none⟩) 21 CU,2832,[⟨2276,144,0,[.string yc,.slice (some ⟨2275,484,none⟩) 227 CU,.slice (some ⟨2337,0,none⟩) 3 CU,.string (by8 [108,101,97,100,101,114]),.slice (some ⟨2339,0,none⟩) 3 CU,.slice (some ⟨2660,0,none⟩) 1 CU,.slice (some ⟨2667,0,none⟩) 2 CU]⟩,⟨2337,9,1,[.string (by8 [108,101,97,100]),.string (by8 [100]),.string (by8 [112])]⟩,⟨2339,160,6,[.string (by8 [108,101,97,100]),Lqii 1,Lqii 0,Lqii 0,Lqii 0,Lqii 1,.string (by8 [100]),Lqii 1,Lqii 0,Lqii (-1),Lqii 1,Lqii 0,.string (by8 [112]),Lqii 3,Lqii 0,Lqii 0,Lqii 0,Lqii 0]⟩,⟨2601,251,2,ych⟩,Lqb0,Lqb1,Lqb2,Lqb3,⟨2660,193,3,[.string (by8 [111,119,110]),.slice (some ⟨2601,0,none⟩) 33 CU,.slice (some ⟨2656,0,none⟩) 3 CU]⟩,⟨2667,9,1,[.string (by8 [111,119,110]),.string (by8 [106,111,105,110])]⟩,⟨2831,251,2,(LqiL [39,0,30,0,8,0,6,0,24,0,43,0,37,0,33,0,12,1,1,1,6,0,33,0,30,0,12,0,6,0,12,1,30,0,33,0,7,0,1,1,6,0])⟩],2276⟩]
theorem ybyh:yh ydui:=yh.seq ycis (by kernel_rfl)
end Ev
end
section
namespace Ev
def ydrq:List Fact:=[⟨198,[.pointer (some ⟨2276,0,none⟩)],2933,[⟨2275,178,4,yfl⟩,⟨2276,144,0,[.string yc,.slice (some ⟨2275,580,none⟩) 203 CU,.slice (some ⟨2337,0,none⟩) 3 CU,.string (by8 [108,101,97,100,101,114]),.slice (some ⟨2339,0,none⟩) 3 CU,.slice (some ⟨2660,0,none⟩) 1 CU,.slice (some ⟨2667,0,none⟩) 2 CU]⟩,⟨2337,9,1,[.string (by8 [108,101,97,100]),.string (by8 [100]),.string (by8 [112])]⟩,⟨2339,160,6,[.string (by8 [108,101,97,100]),Lqii 1,Lqii 0,Lqii 0,Lqii 0,Lqii 1,.string (by8 [100]),Lqii 1,Lqii 0,Lqii (-1),Lqii 1,Lqii 0,.string (by8 [112]),Lqii 3,Lqii 0,Lqii 0,Lqii 0,Lqii 0]⟩,⟨2601,251,2,ych⟩,Lqb0,Lqb1,Lqb2,Lqb3,⟨2660,193,3,[.string (by8 [111,119,110]),.slice (some ⟨2601,0,none⟩) 33 CU,.slice (some ⟨2656,0,none⟩) 3 CU]⟩,⟨2667,9,1,[.string (by8 [111,119,110]),.string (by8 [106,111,105,110])]⟩],.slice (some ⟨2967,0,none⟩) 5 CU,2973,[⟨2276,144,0,[.string yc,.slice (some ⟨2275,608,none⟩) 196 CU,.slice (some ⟨2337,0,none⟩) 3 CU,.string (by8 [108,101,97,100,101,114]),.slice (some ⟨2339,0,none⟩) 3 CU,.slice (some ⟨2660,0,none⟩) 1 CU,.slice (some ⟨2667,0,none⟩) 2 CU]⟩,⟨2337,9,1,[.string (by8 [108,101,97,100]),.string (by8 [100]),.string (by8 [112])]⟩,⟨2339,160,6,[.string (by8 [108,101,97,100]),Lqii 1,Lqii 0,Lqii 0,Lqii 0,Lqii 1,.string (by8 [100]),Lqii 1,Lqii 0,Lqii (-1),Lqii 1,Lqii 0,.string (by8 [112]),Lqii 3,Lqii 0,Lqii 0,Lqii 0,Lqii 0]⟩,⟨2601,251,2,ych⟩,Lqb0,Lqb1,Lqb2,Lqb3,⟨2660,193,3,[.string (by8 [111,119,110]),.slice (some ⟨2601,0,none⟩) 33 CU,.slice (some ⟨2656,0,none⟩) 3 CU]⟩,⟨2667,9,1,[.string (by8 [111,119,110]),.string (by8 [106,111,105,110])]⟩,⟨2967,251,2,(LqiL [30,0,33,0,7,0,1,1,6,0])⟩],2276⟩]
theorem ycck:yh ydrq:=yh.seq yh.nil (by kernel_rfl)
def yeae:List Fact:=[⟨198,[.pointer (some ⟨2276,0,none⟩)],3100,[⟨2275,178,4,yfl⟩,⟨2276,144,0,[.string yc,.slice (some ⟨2275,712,none⟩) 170 CU,.slice (some ⟨2337,0,none⟩) 3 CU,.string (by8 [108,101,97,100,101,114]),.slice (some ⟨2339,0,none⟩) 3 CU,.slice (some ⟨2660,0,none⟩) 1 CU,.slice (some ⟨2667,0,none⟩) 2 CU]⟩,⟨2337,9,1,[.string (by8 [108,101,97,100]),.string (by8 [100]),.string (by8 [112])]⟩,⟨2339,160,6,[.string (by8 [108,101,97,100]),Lqii 1,Lqii 0,Lqii 0,Lqii 0,Lqii 1,.string (by8 [100]),Lqii 1,Lqii 0,Lqii (-1),Lqii 1,Lqii 0,.string (by8 [112]),Lqii 3,Lqii 0,Lqii 0,Lqii 0,Lqii 0]⟩,⟨2601,251,2,ych⟩,Lqb0,Lqb1,Lqb2,Lqb3,⟨2660,193,3,[.string (by8 [111,119,110]),.slice (some ⟨2601,0,none⟩) 33 CU,.slice (some ⟨2656,0,none⟩) 3 CU]⟩,⟨2667,9,1,[.string (by8 [111,119,110]),.string (by8 [106,111,105,110])]⟩],.slice (some ⟨3134,0,none⟩) 5 CU,3140,[⟨2276,144,0,[.string yc,.slice (some ⟨2275,740,none⟩) 163 CU,.slice (some ⟨2337,0,none⟩) 3 CU,.string (by8 [108,101,97,100,101,114]),.slice (some ⟨2339,0,none⟩) 3 CU,.slice (some ⟨2660,0,none⟩) 1 CU,.slice (some ⟨2667,0,none⟩) 2 CU]⟩,⟨2337,9,1,[.string (by8 [108,101,97,100]),.string (by8 [100]),.string (by8 [112])]⟩,⟨2339,160,6,[.string (by8 [108,101,97,100]),Lqii 1,Lqii 0,Lqii 0,Lqii 0,Lqii 1,.string (by8 [100]),Lqii 1,Lqii 0,Lqii (-1),Lqii 1,Lqii 0,.string (by8 [112]),Lqii 3,Lqii 0,Lqii 0,Lqii 0,Lqii 0]⟩,⟨2601,251,2,ych⟩,Lqb0,Lqb1,Lqb2,Lqb3,⟨2660,193,3,[.string (by8 [111,119,110]),.slice (some ⟨2601,0,none⟩) 33 CU,.slice (some ⟨2656,0,none⟩) 3 CU]⟩,⟨2667,9,1,[.string (by8 [111,119,110]),.string (by8 [106,111,105,110])]⟩,⟨3134,251,2,(LqiL [30,0,33,0,7,0,1,1,6,0])⟩],2276⟩]
theorem ycay:yh yeae:=yh.seq yh.nil (by kernel_rfl)
def yecv:List Fact:=[⟨198,[.pointer (some ⟨2276,0,none⟩)],3328,[⟨2275,178,4,yfl⟩,⟨2276,144,0,[.string yc,.slice (some ⟨2275,900,none⟩) 123 CU,.slice (some ⟨2337,0,none⟩) 3 CU,.string (by8 [108,101,97,100,101,114]),.slice (some ⟨2339,0,none⟩) 3 CU,.slice (some ⟨2660,0,none⟩) 1 CU,.slice (some ⟨2667,0,none⟩) 2 CU]⟩,⟨2337,9,1,[.string (by8 [108,101,97,100]),.string (by8 [100]),.string (by8 [112])]⟩,⟨2339,160,6,[.string (by8 [108,101,97,100]),Lqii 1,Lqii 0,Lqii 0,Lqii 0,Lqii 1,.string (by8 [100]),Lqii 1,Lqii 0,Lqii (-1),Lqii 1,Lqii 0,.string (by8 [112]),Lqii 3,Lqii 0,Lqii 0,Lqii 0,Lqii 0]⟩,⟨2601,251,2,ych⟩,Lqb0,Lqb1,Lqb2,Lqb3,⟨2660,193,3,[.string (by8 [111,119,110]),.slice (some ⟨2601,0,none⟩) 33 CU,.slice (some ⟨2656,0,none⟩) 3 CU]⟩,⟨2667,9,1,[.string (by8 [111,119,110]),.string (by8 [106,111,105,110])]⟩],.slice (some ⟨3362,0,none⟩) 5 CU,3368,[⟨2276,144,0,[.string yc,.slice (some ⟨2275,928,none⟩) 116 CU,.slice (some ⟨2337,0,none⟩) 3 CU,.string (by8 [108,101,97,100,101,114]),.slice (some ⟨2339,0,none⟩) 3 CU,.slice (some ⟨2660,0,none⟩) 1 CU,.slice (some ⟨2667,0,none⟩) 2 CU]⟩,⟨2337,9,1,[.string (by8 [108,101,97,100]),.string (by8 [100]),.string (by8 [112])]⟩,⟨2339,160,6,[.string (by8 [108,101,97,100]),Lqii 1,Lqii 0,Lqii 0,Lqii 0,Lqii 1,.string (by8 [100]),Lqii 1,Lqii 0,Lqii (-1),Lqii 1,Lqii 0,.string (by8 [112]),Lqii 3,Lqii 0,Lqii 0,Lqii 0,Lqii 0]⟩,⟨2601,251,2,ych⟩,Lqb0,Lqb1,Lqb2,Lqb3,⟨2660,193,3,[.string (by8 [111,119,110]),.slice (some ⟨2601,0,none⟩) 33 CU,.slice (some ⟨2656,0,none⟩) 3 CU]⟩,⟨2667,9,1,[.string (by8 [111,119,110]),.string (by8 [106,111,105,110])]⟩,⟨3362,251,2,(LqiL [30,0,33,0,7,0,1,1,6,0])⟩],2276⟩]
theorem ycbo:yh yecv:=yh.seq yh.nil (by kernel_rfl)
def ydtd:List Fact:=[⟨198,[.pointer (some ⟨2276,0,none⟩)],3507,[⟨2275,178,4,yfl⟩,⟨2276,144,0,[.string yc,.slice (some ⟨2275,1032,none⟩) 90 CU,.slice (some ⟨2337,0,none⟩) 3 CU,.string (by8 [108,101,97,100,101,114]),.slice (some ⟨2339,0,none⟩) 3 CU,.slice (some ⟨2660,0,none⟩) 1 CU,.slice (some ⟨2667,0,none⟩) 2 CU]⟩,⟨2337,9,1,[.string (by8 [108,101,97,100]),.string (by8 [100]),.string (by8 [112])]⟩,⟨2339,160,6,[.string (by8 [108,101,97,100]),Lqii 1,Lqii 0,Lqii 0,Lqii 0,Lqii 1,.string (by8 [100]),Lqii 1,Lqii 0,Lqii (-1),Lqii 1,Lqii 0,.string (by8 [112]),Lqii 3,Lqii 0,Lqii 0,Lqii 0,Lqii 0]⟩,⟨2601,251,2,ych⟩,Lqb0,Lqb1,Lqb2,Lqb3,⟨2660,193,3,[.string (by8 [111,119,110]),.slice (some ⟨2601,0,none⟩) 33 CU,.slice (some ⟨2656,0,none⟩) 3 CU]⟩,⟨2667,9,1,[.string (by8 [111,119,110]),.string (by8 [106,111,105,110])]⟩],.slice (some ⟨3541,0,none⟩) 5 CU,3547,[⟨2276,144,0,[.string yc,.slice (some ⟨2275,1060,none⟩) 83 CU,.slice (some ⟨2337,0,none⟩) 3 CU,.string (by8 [108,101,97,100,101,114]),.slice (some ⟨2339,0,none⟩) 3 CU,.slice (some ⟨2660,0,none⟩) 1 CU,.slice (some ⟨2667,0,none⟩) 2 CU]⟩,⟨2337,9,1,[.string (by8 [108,101,97,100]),.string (by8 [100]),.string (by8 [112])]⟩,⟨2339,160,6,[.string (by8 [108,101,97,100]),Lqii 1,Lqii 0,Lqii 0,Lqii 0,Lqii 1,.string (by8 [100]),Lqii 1,Lqii 0,Lqii (-1),Lqii 1,Lqii 0,.string (by8 [112]),Lqii 3,Lqii 0,Lqii 0,Lqii 0,Lqii 0]⟩,⟨2601,251,2,ych⟩,Lqb0,Lqb1,Lqb2,Lqb3,⟨2660,193,3,[.string (by8 [111,119,110]),.slice (some ⟨2601,0,none⟩) 33 CU,.slice (some ⟨2656,0,none⟩) 3 CU]⟩,⟨2667,9,1,[.string (by8 [111,119,110]),.string (by8 [106,111,105,110])]⟩,⟨3541,251,2,(LqiL [30,0,33,0,7,0,1,1,6,0])⟩],2276⟩]
theorem ycgx:yh ydtd:=yh.seq yh.nil (by kernel_rfl)
def yedm:List Fact:=[⟨198,[.pointer (some ⟨2276,0,none⟩)],3668,[⟨2275,178,4,yfl⟩,⟨2276,144,0,[.string yc,.slice (some ⟨2275,1164,none⟩) 57 CU,.slice (some ⟨2337,0,none⟩) 3 CU,.string (by8 [108,101,97,100,101,114]),.slice (some ⟨2339,0,none⟩) 3 CU,.slice (some ⟨2660,0,none⟩) 1 CU,.slice (some ⟨2667,0,none⟩) 2 CU]⟩,⟨2337,9,1,[.string (by8 [108,101,97,100]),.string (by8 [100]),.string (by8 [112])]⟩,⟨2339,160,6,[.string (by8 [108,101,97,100]),Lqii 1,Lqii 0,Lqii 0,Lqii 0,Lqii 1,.string (by8 [100]),Lqii 1,Lqii 0,Lqii (-1),Lqii 1,Lqii 0,.string (by8 [112]),Lqii 3,Lqii 0,Lqii 0,Lqii 0,Lqii 0]⟩,⟨2601,251,2,ych⟩,Lqb0,Lqb1,Lqb2,Lqb3,⟨2660,193,3,[.string (by8 [111,119,110]),.slice (some ⟨2601,0,none⟩) 33 CU,.slice (some ⟨2656,0,none⟩) 3 CU]⟩,⟨2667,9,1,[.string (by8 [111,119,110]),.string (by8 [106,111,105,110])]⟩],.slice (some ⟨3702,0,none⟩) 5 CU,3708,[⟨2276,144,0,[.string yc,.slice (some ⟨2275,1192,none⟩) 50 CU,.slice (some ⟨2337,0,none⟩) 3 CU,.string (by8 [108,101,97,100,101,114]),.slice (some ⟨2339,0,none⟩) 3 CU,.slice (some ⟨2660,0,none⟩) 1 CU,.slice (some ⟨2667,0,none⟩) 2 CU]⟩,⟨2337,9,1,[.string (by8 [108,101,97,100]),.string (by8 [100]),.string (by8 [112])]⟩,⟨2339,160,6,[.string (by8 [108,101,97,100]),Lqii 1,Lqii 0,Lqii 0,Lqii 0,Lqii 1,.string (by8 [100]),Lqii 1,Lqii 0,Lqii (-1),Lqii 1,Lqii 0,.string (by8 [112]),Lqii 3,Lqii 0,Lqii 0,Lqii 0,Lqii 0]⟩,⟨2601,251,2,ych⟩,Lqb0,Lqb1,Lqb2,Lqb3,⟨2660,193,3,[.string (by8 [111,119,110]),.slice (some ⟨2601,0,none⟩) 33 CU,.slice (some ⟨2656,0,none⟩) 3 CU]⟩,⟨2667,9,1,[.string (by8 [111,119,110]),.string (by8 [106,111,105,110])]⟩,⟨3702,251,2,(LqiL [30,0,33,0,7,0,1,1,6,0])⟩],2276⟩]
theorem ybyn:yh yedm:=yh.seq yh.nil (by kernel_rfl)
def ydtw:List Fact:=[⟨198,[.pointer (some ⟨2276,0,none⟩)],3886,[⟨2275,178,4,yfl⟩,⟨2276,144,0,[.string yc,.slice (some ⟨2275,1352,none⟩) 10 CU,.slice (some ⟨2337,0,none⟩) 3 CU,.string (by8 [108,101,97,100,101,114]),.slice (some ⟨2339,0,none⟩) 3 CU,.slice (some ⟨2660,0,none⟩) 1 CU,.slice (some ⟨2667,0,none⟩) 2 CU]⟩,⟨2337,9,1,[.string (by8 [108,101,97,100]),.string (by8 [100]),.string (by8 [112])]⟩,⟨2339,160,6,[.string (by8 [108,101,97,100]),Lqii 1,Lqii 0,Lqii 0,Lqii 0,Lqii 1,.string (by8 [100]),Lqii 1,Lqii 0,Lqii (-1),Lqii 1,Lqii 0,.string (by8 [112]),Lqii 3,Lqii 0,Lqii 0,Lqii 0,Lqii 0]⟩,⟨2601,251,2,ych⟩,Lqb0,Lqb1,Lqb2,Lqb3,⟨2660,193,3,[.string (by8 [111,119,110]),.slice (some ⟨2601,0,none⟩) 33 CU,.slice (some ⟨2656,0,none⟩) 3 CU]⟩,⟨2667,9,1,[.string (by8 [111,119,110]),.string (by8 [106,111,105,110])]⟩],.slice (some ⟨3920,0,none⟩) 5 CU,3926,[⟨2276,144,0,[.string yc,.slice (some ⟨2275,1380,none⟩) 3 CU,.slice (some ⟨2337,0,none⟩) 3 CU,.string (by8 [108,101,97,100,101,114]),.slice (some ⟨2339,0,none⟩) 3 CU,.slice (some ⟨2660,0,none⟩) 1 CU,.slice (some ⟨2667,0,none⟩) 2 CU]⟩,⟨2337,9,1,[.string (by8 [108,101,97,100]),.string (by8 [100]),.string (by8 [112])]⟩,⟨2339,160,6,[.string (by8 [108,101,97,100]),Lqii 1,Lqii 0,Lqii 0,Lqii 0,Lqii 1,.string (by8 [100]),Lqii 1,Lqii 0,Lqii (-1),Lqii 1,Lqii 0,.string (by8 [112]),Lqii 3,Lqii 0,Lqii 0,Lqii 0,Lqii 0]⟩,⟨2601,251,2,ych⟩,Lqb0,Lqb1,Lqb2,Lqb3,⟨2660,193,3,[.string (by8 [111,119,110]),.slice (some ⟨2601,0,none⟩) 33 CU,.slice (some ⟨2656,0,none⟩) 3 CU]⟩,⟨2667,9,1,[.string (by8 [111,119,110]),.string (by8 [106,111,105,110])]⟩,⟨3920,251,2,(LqiL [30,0,33,0,7,0,1,1,6,0])⟩],2276⟩]
theorem ycbp:yh ydtw:=yh.seq yh.nil (by kernel_rfl)
end Ev
end
section
namespace Ev
def ydxi:List Fact:=[⟨212,[.pointer (some ⟨2276,0,none⟩),Lqii 2],2837,[⟨2275,178,4,yfl⟩,⟨2276,144,0,[.string yc,.slice (some ⟨2275,492,none⟩) 225 CU,.slice (some ⟨2337,0,none⟩) 3 CU,.string (by8 [108,101,97,100,101,114]),.slice (some ⟨2339,0,none⟩) 3 CU,.slice (some ⟨2660,0,none⟩) 1 CU,.slice (some ⟨2667,0,none⟩) 2 CU]⟩,⟨2337,9,1,[.string (by8 [108,101,97,100]),.string (by8 [100]),.string (by8 [112])]⟩,⟨2339,160,6,[.string (by8 [108,101,97,100]),Lqii 1,Lqii 0,Lqii 0,Lqii 0,Lqii 1,.string (by8 [100]),Lqii 1,Lqii 0,Lqii (-1),Lqii 1,Lqii 0,.string (by8 [112]),Lqii 3,Lqii 0,Lqii 0,Lqii 0,Lqii 0]⟩,⟨2601,251,2,ych⟩,Lqb0,Lqb1,Lqb2,Lqb3,⟨2660,193,3,[.string (by8 [111,119,110]),.slice (some ⟨2601,0,none⟩) 33 CU,.slice (some ⟨2656,0,none⟩) 3 CU]⟩,⟨2667,9,1,[.string (by8 [111,119,110]),.string (by8 [106,111,105,110])]⟩],.slice (some ⟨2999,0,none⟩) 21 CU,3001,[⟨2276,144,0,[.string yc,.slice (some ⟨2275,620,none⟩) 193 CU,.slice (some ⟨2337,0,none⟩) 3 CU,.string (by8 [108,101,97,100,101,114]),.slice (some ⟨2339,0,none⟩) 3 CU,.slice (some ⟨2660,0,none⟩) 1 CU,.slice (some ⟨2667,0,none⟩) 2 CU]⟩,⟨2337,9,1,[.string (by8 [108,101,97,100]),.string (by8 [100]),.string (by8 [112])]⟩,⟨2339,160,6,[.string (by8 [108,101,97,100]),Lqii 1,Lqii 0,Lqii 0,Lqii 0,Lqii 1,.string (by8 [100]),Lqii 1,Lqii 0,Lqii (-1),Lqii 1,Lqii 0,.string (by8 [112]),Lqii 3,Lqii 0,Lqii 0,Lqii 0,Lqii 0]⟩,⟨2601,251,2,ych⟩,Lqb0,Lqb1,Lqb2,Lqb3,⟨2660,193,3,[.string (by8 [111,119,110]),.slice (some ⟨2601,0,none⟩) 33 CU,.slice (some ⟨2656,0,none⟩) 3 CU]⟩,⟨2667,9,1,[.string (by8 [111,119,110]),.string (by8 [106,111,105,110])]⟩,⟨2999,251,2,(LqiL [36,0,5,0,31,0,24,0,43,0,37,0,33,0,12,1,1,1,6,0,33,0,30,0,12,0,6,0,12,1,30,0,33,0,7,0,1,1,6,0,6,0])⟩],2276⟩]
theorem ycgb:yh ydxi:=yh.seq ycck (by kernel_rfl)
def ydyr:List Fact:=[⟨212,[.pointer (some ⟨2276,0,none⟩),Lqii 3],3004,[⟨2275,178,4,yfl⟩,⟨2276,144,0,[.string yc,.slice (some ⟨2275,624,none⟩) 192 CU,.slice (some ⟨2337,0,none⟩) 3 CU,.string (by8 [108,101,97,100,101,114]),.slice (some ⟨2339,0,none⟩) 3 CU,.slice (some ⟨2660,0,none⟩) 1 CU,.slice (some ⟨2667,0,none⟩) 2 CU]⟩,⟨2337,9,1,[.string (by8 [108,101,97,100]),.string (by8 [100]),.string (by8 [112])]⟩,⟨2339,160,6,[.string (by8 [108,101,97,100]),Lqii 1,Lqii 0,Lqii 0,Lqii 0,Lqii 1,.string (by8 [100]),Lqii 1,Lqii 0,Lqii (-1),Lqii 1,Lqii 0,.string (by8 [112]),Lqii 3,Lqii 0,Lqii 0,Lqii 0,Lqii 0]⟩,⟨2601,251,2,ych⟩,Lqb0,Lqb1,Lqb2,Lqb3,⟨2660,193,3,[.string (by8 [111,119,110]),.slice (some ⟨2601,0,none⟩) 33 CU,.slice (some ⟨2656,0,none⟩) 3 CU]⟩,⟨2667,9,1,[.string (by8 [111,119,110]),.string (by8 [106,111,105,110])]⟩],.slice (some ⟨3177,0,none⟩) 23 CU,3178,[⟨2276,144,0,[.string yc,.slice (some ⟨2275,760,none⟩) 158 CU,.slice (some ⟨2337,0,none⟩) 3 CU,.string (by8 [108,101,97,100,101,114]),.slice (some ⟨2339,0,none⟩) 3 CU,.slice (some ⟨2660,0,none⟩) 1 CU,.slice (some ⟨2667,0,none⟩) 2 CU]⟩,⟨2337,9,1,[.string (by8 [108,101,97,100]),.string (by8 [100]),.string (by8 [112])]⟩,⟨2339,160,6,[.string (by8 [108,101,97,100]),Lqii 1,Lqii 0,Lqii 0,Lqii 0,Lqii 1,.string (by8 [100]),Lqii 1,Lqii 0,Lqii (-1),Lqii 1,Lqii 0,.string (by8 [112]),Lqii 3,Lqii 0,Lqii 0,Lqii 0,Lqii 0]⟩,⟨2601,251,2,ych⟩,Lqb0,Lqb1,Lqb2,Lqb3,⟨2660,193,3,[.string (by8 [111,119,110]),.slice (some ⟨2601,0,none⟩) 33 CU,.slice (some ⟨2656,0,none⟩) 3 CU]⟩,⟨2667,9,1,[.string (by8 [111,119,110]),.string (by8 [106,111,105,110])]⟩,⟨3177,251,2,yebu⟩],2276⟩]
theorem ycdk:yh ydyr:=yh.seq ycay (by kernel_rfl)
def yefb:List Fact:=[⟨212,[.pointer (some ⟨2276,0,none⟩),Lqii 4],3242,[⟨2275,178,4,yfl⟩,⟨2276,144,0,[.string yc,.slice (some ⟨2275,820,none⟩) 143 CU,.slice (some ⟨2337,0,none⟩) 3 CU,.string (by8 [108,101,97,100,101,114]),.slice (some ⟨2339,0,none⟩) 3 CU,.slice (some ⟨2660,0,none⟩) 1 CU,.slice (some ⟨2667,0,none⟩) 2 CU]⟩,⟨2337,9,1,[.string (by8 [108,101,97,100]),.string (by8 [100]),.string (by8 [112])]⟩,⟨2339,160,6,[.string (by8 [108,101,97,100]),Lqii 1,Lqii 0,Lqii 0,Lqii 0,Lqii 1,.string (by8 [100]),Lqii 1,Lqii 0,Lqii (-1),Lqii 1,Lqii 0,.string (by8 [112]),Lqii 3,Lqii 0,Lqii 0,Lqii 0,Lqii 0]⟩,⟨2601,251,2,ych⟩,Lqb0,Lqb1,Lqb2,Lqb3,⟨2660,193,3,[.string (by8 [111,119,110]),.slice (some ⟨2601,0,none⟩) 33 CU,.slice (some ⟨2656,0,none⟩) 3 CU]⟩,⟨2667,9,1,[.string (by8 [111,119,110]),.string (by8 [106,111,105,110])]⟩],.slice (some ⟨3377,0,none⟩) 17 CU,3380,[⟨2276,144,0,[.string yc,.slice (some ⟨2275,932,none⟩) 115 CU,.slice (some ⟨2337,0,none⟩) 3 CU,.string (by8 [108,101,97,100,101,114]),.slice (some ⟨2339,0,none⟩) 3 CU,.slice (some ⟨2660,0,none⟩) 1 CU,.slice (some ⟨2667,0,none⟩) 2 CU]⟩,⟨2337,9,1,[.string (by8 [108,101,97,100]),.string (by8 [100]),.string (by8 [112])]⟩,⟨2339,160,6,[.string (by8 [108,101,97,100]),Lqii 1,Lqii 0,Lqii 0,Lqii 0,Lqii 1,.string (by8 [100]),Lqii 1,Lqii 0,Lqii (-1),Lqii 1,Lqii 0,.string (by8 [112]),Lqii 3,Lqii 0,Lqii 0,Lqii 0,Lqii 0]⟩,⟨2601,251,2,ych⟩,Lqb0,Lqb1,Lqb2,Lqb3,⟨2660,193,3,[.string (by8 [111,119,110]),.slice (some ⟨2601,0,none⟩) 33 CU,.slice (some ⟨2656,0,none⟩) 3 CU]⟩,⟨2667,9,1,[.string (by8 [111,119,110]),.string (by8 [106,111,105,110])]⟩,⟨3377,251,2,(LqiL [24,0,43,0,37,0,33,0,12,1,1,1,6,0,33,0,30,0,12,0,6,0,12,1,30,0,33,0,7,0,1,1,6,0])⟩],2276⟩]
theorem ybxd:yh yefb:=yh.seq ycbo (by kernel_rfl)
end Ev
end
section
namespace Ev
def ycal:Fact:=⟨217,[.slice (some ⟨3411,0,none⟩) 94 CU],4387,[⟨3411,251,2,yor⟩],Lqii 11,4575,[],4387⟩
def yebl:List Fact:=[ycal]
theorem ybje:yh yebl:=yh.seq yh.nil (by kernel_rfl)
def ycet:Fact:=⟨218,[.slice (some ⟨3411,0,none⟩) 94 CU],4575,[⟨3411,251,2,yor⟩],Lqii 2,4763,[],4575⟩
def yedp:List Fact:=[ycet]
theorem ybkd:yh yedp:=yh.seq yh.nil (by kernel_rfl)
def ydzb:List Fact:=[⟨202,[.slice (some ⟨3740,0,none⟩) 21 CU,Lqii 3],4880,[Lqb4],.bool true,5006,[],4880⟩,⟨202,[.slice (some ⟨3948,0,none⟩) 24 CU,Lqii 3],5007,[⟨3948,251,2,yui⟩],.bool true,5151,[],5007⟩]
theorem yckb:yh ydzb:=yh.seq yh.nil (by kernel_rfl)
end Ev
end
section
namespace Ev
def ydzm:List Fact:=[⟨203,[.slice (some ⟨3948,0,none⟩) 24 CU,.slice (some ⟨5152,0,none⟩) 3 3,.bool false],6873,[⟨3948,251,2,yui⟩,Lqb5],.tuple (LqiA [3,0]),7114,[],6873⟩]
theorem ycdn:yh ydzm:=yh.seq yh.nil (by kernel_rfl)
end Ev
end
section
namespace Ev
def ycaa:Fact:=⟨164,[.agg #[.string (by8 [106,111,105,110]),.slice (some ⟨3411,0,none⟩) 94 CU,.slice (some ⟨3955,0,none⟩) 3 CU],Lqii 3],4198,[⟨3411,251,2,yor⟩,Lqb6,Lqb4,⟨3948,251,2,yui⟩,Lqb7],.bool true,5151,[],4198⟩
def ydqs:List Fact:=[ycaa]
theorem ybgl:yh ydqs:=yh.seq (yh.append ybje (yh.append ybkd yckb)) (by kernel_rfl)
def Lqm0:Fact:=ycal.move [3411] 5715
theorem ydlc:yfu zA Lqm0:=ykk (yh.at_ ybje 0 rfl) (by kernel_rfl)
def Lqm1:Fact:=ycet.move [3411] 5903
theorem ydjh:yfu zA Lqm1:=ykk (yh.at_ ybkd 0 rfl) (by kernel_rfl)
def ycio:Fact:=⟨166,[.agg #[.string (by8 [106,111,105,110]),.slice (some ⟨3411,0,none⟩) 94 CU,.slice (some ⟨3955,0,none⟩) 3 CU],.slice (some ⟨5152,0,none⟩) 3 3],5526,[⟨3411,251,2,yor⟩,Lqb6,Lqb4,⟨3948,251,2,yui⟩,Lqb7,Lqb5],.bool true,7114,[],5526⟩
def yedw:List Fact:=[ycio]
theorem ybju:yh yedw:=yh.seq (yh.append (yh.cons (f:=Lqm0) ydlc yh.nil) (yh.append (yh.cons (f:=Lqm1) ydjh yh.nil) (yh.append ycgk (yh.append ycgw ycdn)))) (by kernel_rfl)
end Ev
end
section
namespace Ev
def yefn:List Fact:=[⟨198,[.pointer (some ⟨2276,0,none⟩)],2349,[⟨2275,178,4,yfl⟩,⟨2276,144,0,[.string yc,.slice (some ⟨2275,108,none⟩) 321 CU,.slice (some ⟨2337,0,none⟩) 3 CU,.string (by8 [108,101,97,100,101,114]),.slice (some ⟨2339,0,none⟩) 3 CU,.slice none 0 0,.slice (some ⟨2346,0,none⟩) 1 CU]⟩,⟨2337,9,1,[.string (by8 [108,101,97,100]),.string (by8 [100]),.string (by8 [112])]⟩,⟨2339,160,6,[.string (by8 [108,101,97,100]),Lqii 1,Lqii 0,Lqii 0,Lqii 0,Lqii 1,.string (by8 [100]),Lqii 1,Lqii 0,Lqii (-1),Lqii 1,Lqii 0,.string (by8 [112]),Lqii 3,Lqii 0,Lqii 0,Lqii 0,Lqii 0]⟩,⟨2346,9,1,[.string (by8 [111,119,110])]⟩],.slice (some ⟨2601,0,none⟩) 33 CU,2604,[⟨2276,144,0,[.string yc,.slice (some ⟨2275,292,none⟩) 275 CU,.slice (some ⟨2337,0,none⟩) 3 CU,.string (by8 [108,101,97,100,101,114]),.slice (some ⟨2339,0,none⟩) 3 CU,.slice none 0 0,.slice (some ⟨2346,0,none⟩) 1 CU]⟩,⟨2337,9,1,[.string (by8 [108,101,97,100]),.string (by8 [100]),.string (by8 [112])]⟩,⟨2339,160,6,[.string (by8 [108,101,97,100]),Lqii 1,Lqii 0,Lqii 0,Lqii 0,Lqii 1,.string (by8 [100]),Lqii 1,Lqii 0,Lqii (-1),Lqii 1,Lqii 0,.string (by8 [112]),Lqii 3,Lqii 0,Lqii 0,Lqii 0,Lqii 0]⟩,⟨2346,9,1,[.string (by8 [111,119,110])]⟩,⟨2601,251,2,ych⟩],2276⟩]
theorem ycdx:yh yefn:=yh.seq yceu (by kernel_rfl)
def ydur:List Fact:=[⟨198,[.pointer (some ⟨2276,0,none⟩)],2670,[⟨2275,178,4,yfl⟩,⟨2276,144,0,[.string yc,.slice (some ⟨2275,356,none⟩) 259 CU,.slice (some ⟨2337,0,none⟩) 3 CU,.string (by8 [108,101,97,100,101,114]),.slice (some ⟨2339,0,none⟩) 3 CU,.slice (some ⟨2660,0,none⟩) 1 CU,.slice (some ⟨2667,0,none⟩) 2 CU]⟩,⟨2337,9,1,[.string (by8 [108,101,97,100]),.string (by8 [100]),.string (by8 [112])]⟩,⟨2339,160,6,[.string (by8 [108,101,97,100]),Lqii 1,Lqii 0,Lqii 0,Lqii 0,Lqii 1,.string (by8 [100]),Lqii 1,Lqii 0,Lqii (-1),Lqii 1,Lqii 0,.string (by8 [112]),Lqii 3,Lqii 0,Lqii 0,Lqii 0,Lqii 0]⟩,⟨2601,251,2,ych⟩,Lqb0,Lqb1,Lqb2,Lqb3,⟨2660,193,3,[.string (by8 [111,119,110]),.slice (some ⟨2601,0,none⟩) 33 CU,.slice (some ⟨2656,0,none⟩) 3 CU]⟩,⟨2667,9,1,[.string (by8 [111,119,110]),.string (by8 [106,111,105,110])]⟩],.slice (some ⟨3411,0,none⟩) 94 CU,3414,[⟨2276,144,0,[.string yc,.slice (some ⟨2275,940,none⟩) 113 CU,.slice (some ⟨2337,0,none⟩) 3 CU,.string (by8 [108,101,97,100,101,114]),.slice (some ⟨2339,0,none⟩) 3 CU,.slice (some ⟨2660,0,none⟩) 1 CU,.slice (some ⟨2667,0,none⟩) 2 CU]⟩,⟨2337,9,1,[.string (by8 [108,101,97,100]),.string (by8 [100]),.string (by8 [112])]⟩,⟨2339,160,6,[.string (by8 [108,101,97,100]),Lqii 1,Lqii 0,Lqii 0,Lqii 0,Lqii 1,.string (by8 [100]),Lqii 1,Lqii 0,Lqii (-1),Lqii 1,Lqii 0,.string (by8 [112]),Lqii 3,Lqii 0,Lqii 0,Lqii 0,Lqii 0]⟩,⟨2601,251,2,ych⟩,Lqb0,Lqb1,Lqb2,Lqb3,⟨2660,193,3,[.string (by8 [111,119,110]),.slice (some ⟨2601,0,none⟩) 33 CU,.slice (some ⟨2656,0,none⟩) 3 CU]⟩,⟨2667,9,1,[.string (by8 [111,119,110]),.string (by8 [106,111,105,110])]⟩,⟨3411,251,2,yor⟩],2276⟩]
theorem ycbv:yh ydur:=yh.seq (yh.append ybyh (yh.append ycgb (yh.append ycdk ybxd))) (by kernel_rfl)
def Lqm2:Fact:=ycaa.move [3411,3567,3740,3948,3955] 7354
theorem ydqc:yfu zA Lqm2:=ykk (yh.at_ ybgl 0 rfl) (by kernel_rfl)
def Lqm3:Fact:=yccf.move [2601,2614,2631,2649,2656,8308] 8313
theorem ydpr:yfu zA Lqm3:=ykk (yh.at_ ybin 0 rfl) (by kernel_rfl)
def Lqm4:Fact:=ycio.move [3411,3567,3740,3948,3955,8308] 8682
theorem ydkx:yfu zA Lqm4:=ykk (yh.at_ ybju 0 rfl) (by kernel_rfl)
def yboa:Fact:=⟨130,[.agg #[.string (by8 [108,101,97,100,101,114]),.slice (some ⟨2339,0,none⟩) 3 CU,.slice (some ⟨3959,0,none⟩) 2 CU]],7115,[⟨2339,160,6,[.string (by8 [108,101,97,100]),Lqii 1,Lqii 0,Lqii 0,Lqii 0,Lqii 1,.string (by8 [100]),Lqii 1,Lqii 0,Lqii (-1),Lqii 1,Lqii 0,.string (by8 [112]),Lqii 3,Lqii 0,Lqii 0,Lqii 0,Lqii 0]⟩,⟨2601,251,2,ych⟩,Lqb0,Lqb1,Lqb2,Lqb3,⟨3411,251,2,yor⟩,Lqb6,Lqb4,⟨3948,251,2,yui⟩,Lqb7,⟨3959,193,3,[.string (by8 [111,119,110]),.slice (some ⟨2601,0,none⟩) 33 CU,.slice (some ⟨2656,0,none⟩) 3 CU,.string (by8 [106,111,105,110]),.slice (some ⟨3411,0,none⟩) 94 CU,.slice (some ⟨3955,0,none⟩) 3 CU]⟩],.bool true,10270,[],7115⟩
def ydwf:List Fact:=[yboa]
theorem ycfw:yh ydwf:=yh.seq (yh.append (yh.cons (f:=Lqm2) ydqc yh.nil) (yh.append (yh.cons (f:=Lqm3) ydpr yh.nil) (yh.cons (f:=Lqm4) ydkx yh.nil))) (by kernel_rfl)
end Ev
end
section
namespace Ev
def ydzd:List Fact:=[⟨198,[.pointer (some ⟨2276,0,none⟩)],3421,[⟨2275,178,4,yfl⟩,⟨2276,144,0,[.string yc,.slice (some ⟨2275,952,none⟩) 110 CU,.slice (some ⟨2337,0,none⟩) 3 CU,.string (by8 [108,101,97,100,101,114]),.slice (some ⟨2339,0,none⟩) 3 CU,.slice (some ⟨2660,0,none⟩) 1 CU,.slice (some ⟨2667,0,none⟩) 2 CU]⟩,⟨2337,9,1,[.string (by8 [108,101,97,100]),.string (by8 [100]),.string (by8 [112])]⟩,⟨2339,160,6,[.string (by8 [108,101,97,100]),Lqii 1,Lqii 0,Lqii 0,Lqii 0,Lqii 1,.string (by8 [100]),Lqii 1,Lqii 0,Lqii (-1),Lqii 1,Lqii 0,.string (by8 [112]),Lqii 3,Lqii 0,Lqii 0,Lqii 0,Lqii 0]⟩,⟨2601,251,2,ych⟩,Lqb0,Lqb1,Lqb2,Lqb3,⟨2660,193,3,[.string (by8 [111,119,110]),.slice (some ⟨2601,0,none⟩) 33 CU,.slice (some ⟨2656,0,none⟩) 3 CU]⟩,⟨2667,9,1,[.string (by8 [111,119,110]),.string (by8 [106,111,105,110])]⟩],.slice (some ⟨3567,0,none⟩) 19 CU,3573,[⟨2276,144,0,[.string yc,.slice (some ⟨2275,1072,none⟩) 80 CU,.slice (some ⟨2337,0,none⟩) 3 CU,.string (by8 [108,101,97,100,101,114]),.slice (some ⟨2339,0,none⟩) 3 CU,.slice (some ⟨2660,0,none⟩) 1 CU,.slice (some ⟨2667,0,none⟩) 2 CU]⟩,⟨2337,9,1,[.string (by8 [108,101,97,100]),.string (by8 [100]),.string (by8 [112])]⟩,⟨2339,160,6,[.string (by8 [108,101,97,100]),Lqii 1,Lqii 0,Lqii 0,Lqii 0,Lqii 1,.string (by8 [100]),Lqii 1,Lqii 0,Lqii (-1),Lqii 1,Lqii 0,.string (by8 [112]),Lqii 3,Lqii 0,Lqii 0,Lqii 0,Lqii 0]⟩,⟨2601,251,2,ych⟩,Lqb0,Lqb1,Lqb2,Lqb3,⟨2660,193,3,[.string (by8 [111,119,110]),.slice (some ⟨2601,0,none⟩) 33 CU,.slice (some ⟨2656,0,none⟩) 3 CU]⟩,⟨2667,9,1,[.string (by8 [111,119,110]),.string (by8 [106,111,105,110])]⟩,Lqb6],2276⟩]
theorem ycia:yh ydzd:=yh.seq ycgx (by kernel_rfl)
def yegi:List Fact:=[⟨198,[.pointer (some ⟨2276,0,none⟩)],3582,[⟨2275,178,4,yfl⟩,⟨2276,144,0,[.string yc,.slice (some ⟨2275,1084,none⟩) 77 CU,.slice (some ⟨2337,0,none⟩) 3 CU,.string (by8 [108,101,97,100,101,114]),.slice (some ⟨2339,0,none⟩) 3 CU,.slice (some ⟨2660,0,none⟩) 1 CU,.slice (some ⟨2667,0,none⟩) 2 CU]⟩,⟨2337,9,1,[.string (by8 [108,101,97,100]),.string (by8 [100]),.string (by8 [112])]⟩,⟨2339,160,6,[.string (by8 [108,101,97,100]),Lqii 1,Lqii 0,Lqii 0,Lqii 0,Lqii 1,.string (by8 [100]),Lqii 1,Lqii 0,Lqii (-1),Lqii 1,Lqii 0,.string (by8 [112]),Lqii 3,Lqii 0,Lqii 0,Lqii 0,Lqii 0]⟩,⟨2601,251,2,ych⟩,Lqb0,Lqb1,Lqb2,Lqb3,⟨2660,193,3,[.string (by8 [111,119,110]),.slice (some ⟨2601,0,none⟩) 33 CU,.slice (some ⟨2656,0,none⟩) 3 CU]⟩,⟨2667,9,1,[.string (by8 [111,119,110]),.string (by8 [106,111,105,110])]⟩],.slice (some ⟨3740,0,none⟩) 21 CU,3745,[⟨2276,144,0,[.string yc,.slice (some ⟨2275,1212,none⟩) 45 CU,.slice (some ⟨2337,0,none⟩) 3 CU,.string (by8 [108,101,97,100,101,114]),.slice (some ⟨2339,0,none⟩) 3 CU,.slice (some ⟨2660,0,none⟩) 1 CU,.slice (some ⟨2667,0,none⟩) 2 CU]⟩,⟨2337,9,1,[.string (by8 [108,101,97,100]),.string (by8 [100]),.string (by8 [112])]⟩,⟨2339,160,6,[.string (by8 [108,101,97,100]),Lqii 1,Lqii 0,Lqii 0,Lqii 0,Lqii 1,.string (by8 [100]),Lqii 1,Lqii 0,Lqii (-1),Lqii 1,Lqii 0,.string (by8 [112]),Lqii 3,Lqii 0,Lqii 0,Lqii 0,Lqii 0]⟩,⟨2601,251,2,ych⟩,Lqb0,Lqb1,Lqb2,Lqb3,⟨2660,193,3,[.string (by8 [111,119,110]),.slice (some ⟨2601,0,none⟩) 33 CU,.slice (some ⟨2656,0,none⟩) 3 CU]⟩,⟨2667,9,1,[.string (by8 [111,119,110]),.string (by8 [106,111,105,110])]⟩,Lqb4],2276⟩]
theorem yciy:yh yegi:=yh.seq ybyn (by kernel_rfl)
def ydzi:List Fact:=[⟨212,[.pointer (some ⟨2276,0,none⟩),Lqii 4],3800,[⟨2275,178,4,yfl⟩,⟨2276,144,0,[.string yc,.slice (some ⟨2275,1272,none⟩) 30 CU,.slice (some ⟨2337,0,none⟩) 3 CU,.string (by8 [108,101,97,100,101,114]),.slice (some ⟨2339,0,none⟩) 3 CU,.slice (some ⟨2660,0,none⟩) 1 CU,.slice (some ⟨2667,0,none⟩) 2 CU]⟩,⟨2337,9,1,[.string (by8 [108,101,97,100]),.string (by8 [100]),.string (by8 [112])]⟩,⟨2339,160,6,[.string (by8 [108,101,97,100]),Lqii 1,Lqii 0,Lqii 0,Lqii 0,Lqii 1,.string (by8 [100]),Lqii 1,Lqii 0,Lqii (-1),Lqii 1,Lqii 0,.string (by8 [112]),Lqii 3,Lqii 0,Lqii 0,Lqii 0,Lqii 0]⟩,⟨2601,251,2,ych⟩,Lqb0,Lqb1,Lqb2,Lqb3,⟨2660,193,3,[.string (by8 [111,119,110]),.slice (some ⟨2601,0,none⟩) 33 CU,.slice (some ⟨2656,0,none⟩) 3 CU]⟩,⟨2667,9,1,[.string (by8 [111,119,110]),.string (by8 [106,111,105,110])]⟩],.slice (some ⟨3935,0,none⟩) 17 CU,3938,[⟨2276,144,0,[.string yc,.slice (some ⟨2275,1384,none⟩) 2 CU,.slice (some ⟨2337,0,none⟩) 3 CU,.string (by8 [108,101,97,100,101,114]),.slice (some ⟨2339,0,none⟩) 3 CU,.slice (some ⟨2660,0,none⟩) 1 CU,.slice (some ⟨2667,0,none⟩) 2 CU]⟩,⟨2337,9,1,[.string (by8 [108,101,97,100]),.string (by8 [100]),.string (by8 [112])]⟩,⟨2339,160,6,[.string (by8 [108,101,97,100]),Lqii 1,Lqii 0,Lqii 0,Lqii 0,Lqii 1,.string (by8 [100]),Lqii 1,Lqii 0,Lqii (-1),Lqii 1,Lqii 0,.string (by8 [112]),Lqii 3,Lqii 0,Lqii 0,Lqii 0,Lqii 0]⟩,⟨2601,251,2,ych⟩,Lqb0,Lqb1,Lqb2,Lqb3,⟨2660,193,3,[.string (by8 [111,119,110]),.slice (some ⟨2601,0,none⟩) 33 CU,.slice (some ⟨2656,0,none⟩) 3 CU]⟩,⟨2667,9,1,[.string (by8 [111,119,110]),.string (by8 [106,111,105,110])]⟩,⟨3935,251,2,(LqiL [24,0,43,0,37,0,33,0,12,1,1,1,6,0,33,0,30,0,12,0,6,0,12,1,30,0,33,0,7,0,1,1,6,0])⟩],2276⟩]
theorem ybzs:yh ydzi:=yh.seq ycbp (by kernel_rfl)
end Ev
end
section
namespace Ev
def ydsf:List Fact:=[⟨159,[.pointer (some ⟨2276,0,none⟩)],2663,[⟨2275,178,4,yfl⟩,⟨2276,144,0,[.string yc,.slice (some ⟨2275,348,none⟩) 261 CU,.slice (some ⟨2337,0,none⟩) 3 CU,.string (by8 [108,101,97,100,101,114]),.slice (some ⟨2339,0,none⟩) 3 CU,.slice (some ⟨2660,0,none⟩) 1 CU,.slice (some ⟨2346,0,none⟩) 1 CU]⟩,⟨2337,9,1,[.string (by8 [108,101,97,100]),.string (by8 [100]),.string (by8 [112])]⟩,⟨2339,160,6,[.string (by8 [108,101,97,100]),Lqii 1,Lqii 0,Lqii 0,Lqii 0,Lqii 1,.string (by8 [100]),Lqii 1,Lqii 0,Lqii (-1),Lqii 1,Lqii 0,.string (by8 [112]),Lqii 3,Lqii 0,Lqii 0,Lqii 0,Lqii 0]⟩,⟨2346,9,1,[.string (by8 [111,119,110])]⟩,⟨2601,251,2,ych⟩,Lqb0,Lqb1,Lqb2,Lqb3,⟨2660,193,3,[.string (by8 [111,119,110]),.slice (some ⟨2601,0,none⟩) 33 CU,.slice (some ⟨2656,0,none⟩) 3 CU]⟩],.tuple #[],3960,[⟨2276,144,0,[.string yc,.slice (some ⟨2275,1392,none⟩) 0 CU,.slice (some ⟨2337,0,none⟩) 3 CU,.string (by8 [108,101,97,100,101,114]),.slice (some ⟨2339,0,none⟩) 3 CU,.slice (some ⟨3959,0,none⟩) 2 CU,.slice (some ⟨2667,0,none⟩) 2 CU]⟩,⟨2337,9,1,[.string (by8 [108,101,97,100]),.string (by8 [100]),.string (by8 [112])]⟩,⟨2339,160,6,[.string (by8 [108,101,97,100]),Lqii 1,Lqii 0,Lqii 0,Lqii 0,Lqii 1,.string (by8 [100]),Lqii 1,Lqii 0,Lqii (-1),Lqii 1,Lqii 0,.string (by8 [112]),Lqii 3,Lqii 0,Lqii 0,Lqii 0,Lqii 0]⟩,⟨2601,251,2,ych⟩,Lqb0,Lqb1,Lqb2,Lqb3,⟨2667,9,1,[.string (by8 [111,119,110]),.string (by8 [106,111,105,110])]⟩,⟨3411,251,2,yor⟩,Lqb6,Lqb4,⟨3948,251,2,yui⟩,Lqb7,⟨3959,193,3,[.string (by8 [111,119,110]),.slice (some ⟨2601,0,none⟩) 33 CU,.slice (some ⟨2656,0,none⟩) 3 CU,.string (by8 [106,111,105,110]),.slice (some ⟨3411,0,none⟩) 94 CU,.slice (some ⟨3955,0,none⟩) 3 CU]⟩],2276⟩]
theorem ychb:yh ydsf:=yh.seq (yh.append ycbv (yh.append ycia (yh.append yciy ybzs))) (by kernel_rfl)
end Ev
end
section
namespace Ev
def yeer:List Fact:=[⟨119,[.pointer (some ⟨2276,0,none⟩)],2277,[⟨2275,178,4,yfl⟩,⟨2276,144,0,[.string yc,.slice (some ⟨2275,0,none⟩) 348 CU,.slice none 0 0,.string (by8 []),.slice none 0 0,.slice none 0 0,.slice none 0 0]⟩],.tuple #[],3960,[⟨2276,144,0,[.string yc,.slice (some ⟨2275,1392,none⟩) 0 CU,.slice (some ⟨2337,0,none⟩) 3 CU,.string (by8 [108,101,97,100,101,114]),.slice (some ⟨2339,0,none⟩) 3 CU,.slice (some ⟨3959,0,none⟩) 2 CU,.slice (some ⟨2667,0,none⟩) 2 CU]⟩,⟨2337,9,1,[.string (by8 [108,101,97,100]),.string (by8 [100]),.string (by8 [112])]⟩,⟨2339,160,6,[.string (by8 [108,101,97,100]),Lqii 1,Lqii 0,Lqii 0,Lqii 0,Lqii 1,.string (by8 [100]),Lqii 1,Lqii 0,Lqii (-1),Lqii 1,Lqii 0,.string (by8 [112]),Lqii 3,Lqii 0,Lqii 0,Lqii 0,Lqii 0]⟩,⟨2601,251,2,ych⟩,Lqb0,Lqb1,Lqb2,Lqb3,⟨2667,9,1,[.string (by8 [111,119,110]),.string (by8 [106,111,105,110])]⟩,⟨3411,251,2,yor⟩,Lqb6,Lqb4,⟨3948,251,2,yui⟩,Lqb7,⟨3959,193,3,[.string (by8 [111,119,110]),.slice (some ⟨2601,0,none⟩) 33 CU,.slice (some ⟨2656,0,none⟩) 3 CU,.string (by8 [106,111,105,110]),.slice (some ⟨3411,0,none⟩) 94 CU,.slice (some ⟨3955,0,none⟩) 3 CU]⟩],2276⟩]
theorem ybyk:yh yeer:=yh.seq (yh.append ycdx ychb) (by kernel_rfl)
end Ev
end
section
namespace Ev
def yti:Fact:=⟨11,[.string yc],0,[],.agg #[.string (by8 [108,101,97,100,101,114]),.slice (some ⟨2339,0,none⟩) 3 CU,.slice (some ⟨3959,0,none⟩) 2 CU],7115,[⟨2339,160,6,[.string (by8 [108,101,97,100]),Lqii 1,Lqii 0,Lqii 0,Lqii 0,Lqii 1,.string (by8 [100]),Lqii 1,Lqii 0,Lqii (-1),Lqii 1,Lqii 0,.string (by8 [112]),Lqii 3,Lqii 0,Lqii 0,Lqii 0,Lqii 0]⟩,⟨2601,251,2,ych⟩,Lqb0,Lqb1,Lqb2,Lqb3,⟨3411,251,2,yor⟩,Lqb6,Lqb4,⟨3948,251,2,yui⟩,Lqb7,⟨3959,193,3,[.string (by8 [111,119,110]),.slice (some ⟨2601,0,none⟩) 33 CU,.slice (some ⟨2656,0,none⟩) 3 CU,.string (by8 [106,111,105,110]),.slice (some ⟨3411,0,none⟩) 94 CU,.slice (some ⟨3955,0,none⟩) 3 CU]⟩],0⟩
def ydyk:List Fact:=[yti]
theorem ychy:yh ydyk:=yh.seq (yh.append ycbz (yh.append ybyk (yh.append ybgl (yh.append ybin ybju)))) (by kernel_rfl)
end Ev
end
section
namespace Ev
end Ev
end
end Go.Proofs.YthclbjjgfcgbgaaGreatDoor
