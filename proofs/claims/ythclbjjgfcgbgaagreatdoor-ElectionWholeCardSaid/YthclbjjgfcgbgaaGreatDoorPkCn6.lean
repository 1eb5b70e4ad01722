/- Joined. -/
import Derived.Test.YthclbjjgfcgbgaaGreatDoorPkCn4
import Derived.Lib.Bytealg
set_option linter.unusedSimpArgs false
set_option linter.unusedVariables false
set_option maxRecDepth 1000000
open Go.Proofs.Tryz renaming prog->zA,func118->zU
open Bool renaming and_eq_true->zB,cond_eq_ite->zH,false_eq_true->zK
open Nat renaming le_of_ble_eq_true->zC,lt_of_lt_of_le->zF,lt_succ_self->zI,le_refl->zJ,eq_of_beq_eq_true->zN,ble_eq_true_of_le->zO,blt->zQ,ble->zW,add->zX,sub->zY,beq->zZ
open Go.Lib renaming indexByte->zD,hid->zV
open List renaming mem_of_getElem?->zG,getElem?_map->zL,length_map->zM,all_cons->zS
open Classical renaming byContradiction->zT
open Go
namespace Go.Proofs.YthclbjjgfcgbgaaGreatDoor
section
namespace Ev
open Go Go.RowKit
theorem ysh(c:UInt8):∀(l:List UInt8) (k:Nat),(match yre c l k with|some i=>Int.ofNat i|none=>-1)=(if zD l c == -1 then -1 else zD l c+(k:Int))
 |[],k=>by simp[yre,zD]
 | x :: l,k=>by
   unfold yre zD
   by_cases b:x=c
   .subst b;simp
   .have e:zZ x.toNat c.toNat=false:=by
     rw[Bool.eq_false_iff];intro h;exact b (UInt8.toNat_inj.1 (zN h))
    have f:(x==c)=false:=by simpa using b
    rw[e,f];have g:=ysh c l (k+1);simp only[zH,zK,if_false];rw[g];have:=Lib.indexByte_ge l c
    by_cases d:zD l c = -1
    .simp[d]
    .have a:(zD l c == -1)=false:=by simpa using d
     rw[a];simp only[zK,if_false];rw[if_neg (by simp;omega)]
     push_cast;omega
theorem yup(args:List Value)(m:Mem)(out:Out)(h:ylq m args=some out):ycb zA (.call 245 args m) out:=by
 unfold ylq at h;split at h
 .rename_i s c
  have d:=ysh c.toUInt8 s.data.toList 0
  have f:∀n:Int,n=zD s.data.toList c.toUInt8->ycb zA (.call 245 [.string s,.int .u8 (.ofNat c)] m) (.call (.int .i64 n) (ygn m)):=by
   intro n v z;refine⟨⟨zJ _,fun i b g=>.inl ⟨b,g⟩,fun i b _ _ g=>g,z⟩,fun l M w a u x y _=>.inr ⟨.int .i64 n,w,?_,?_⟩⟩
   .have e:a=[.string s,.int .u8 (.ofNat c)]:=by
     cases y with
     | cons p q =>
       cases q with
       | cons r t =>
         cases t
         rw[p.eq_simple rfl,r.eq_simple rfl]
    subst e;rw[run_callFunc_extern Tryz.func245 (by kernel_rfl) (by kernel_rfl) (by kernel_rfl) (by kernel_rfl),Lib.run_indexByteString,v]
    rfl
   .exact⟨_,rfl,l,M,⟨l.le_refl,fun _ _=>rfl,u,x,fun _ _ _=>rfl,WG.refl _ _ _⟩,.simple rfl⟩
  have o:(if zD s.data.toList c.toUInt8 == -1 then -1 else zD s.data.toList c.toUInt8+((0:Nat):Int))=zD s.data.toList c.toUInt8:=by
   by_cases k:zD s.data.toList c.toUInt8 = -1
   .simp[k]
   .simp[k]
  rw[o]at d;split at h
  .rename_i i j
   rw[j]at d;simp only[ybr]at h;cases h
   exact f _ d
  .rename_i j
   rw[j]at d;cases h
   exact f _ d
 .cases h
end Ev
end
section
open Go.RowKit
theorem ybdv(w:World):Calls zA 154 #[.nilIface] w fun e a=>e = .returned (.tuple #[.agg #[.int .i64 0,.int .i64 0],.bool false])/\Below w.heap.size w a:=by
 go_enter Tryz.func154,Tryz.ntmps154
 go_wp2
 refine⟨rfl,.tuple #[.agg #[.int .i64 0,.int .i64 0],.bool false],?_,rfl,?_⟩
 .simp[results,Tryz.results154,go_sem]
 .exact(Below.refl _ _).alloc (zJ _) _
theorem catch_idle(p q:Addr)(w:World) :
 CallsD zA 153 #[.pointer (some p),.pointer (some q)] .returning w fun e d f=>e = .returned (.tuple #[])/\d = .returning/\Below w.heap.size w f:=by
 refine callsD_of_wpS Tryz.func153 rfl fun a g c=>?_;apply wpS_seq;apply wpS_region;simp[wpOpsS,go_sem,recoverD,c,Tryz.ntmps153,Exit.thenS];refine(ybdv w).mono ?_;rintro e h ⟨rfl,b⟩;simp[go_sem];apply wpS_seq;apply wpS_region;simp[wpOpsS,go_sem,Exit.thenS];refine wpS_cond (t:=false) (by simp[Act.eval,Array.replicate]) ?_
 simp only[zK,if_false];refine wpS_of_wp (wp_skip ?_);refine⟨rfl,.returning,by cases a;simp_all,.tuple #[],by simp[results,Tryz.results153],rfl,rfl,b.alloc b.size _⟩
def ygl(w:World):World:=(w.alloc (.cells #[.int .i64 0] 3)).alloc (.cells #[.int .i64 0] 42)
theorem ycnu(w:World):(ygl w).heap[w.heap.size]?=some (.cells #[.int .i64 0] 3):=by
 unfold ygl;rw[Below.heap_alloc _ _ _ (by simp[go_sem])]
 exact heap_alloc_new w _
theorem yctl(w:World):(ygl w).heap[w.heap.size+1]?=some (.cells #[.int .i64 0] 42):=by
 have:=heap_alloc_new (w.alloc (.cells #[.int .i64 0] 3)) (.cells #[.int .i64 0] 42);rw[show(w.alloc (.cells #[.int .i64 0] 3)).heap.size=w.heap.size+1 by simp[go_sem]]at this
 exact this
theorem ybqa (h:FuncId) (first cap:Array Value) (w:World) (Q:World->Prop)
 (t:∀a,Q a->a.heap[w.heap.size]?=(ygl w).heap[w.heap.size]?/\a.heap[w.heap.size+1]?=(ygl w).heap[w.heap.size+1]?)
 (i:((callFunc h (first++cap)).run zA (ygl w) = .ok (.enter h (first++cap)) (ygl w)/\Calls zA h (first++cap) (ygl w) fun e a=>(∃v,e = .returned v)/\Q a) \/
   (∃v a,(callFunc h (first++cap)).run zA (ygl w) = .ok (.value v) a/\Q a)) :
 Calls zA 118 #[.func (.func h) first cap] w fun e c=>e = .returned (.tuple #[.int .i64 0,.int .i64 0]) /\
  ∃a,Q a/\Below a.heap.size ((a.setCell ⟨w.heap.size,0,none⟩ (.int .i64 0)).setCell ⟨w.heap.size+1,0,none⟩ (.int .i64 0)) c:=by
 have n:∀(fn:Fn) (first cap:Array Value) (w:World),(Instr.makeFunc fn first cap).run zA w = .ok (.func fn first cap) w:=fun _ _ _ _=>rfl
 have Hq:=zV t;clear t
 have p:=zV i;clear i
 go_enter_defers zU,Tryz.ntmps118
 generalize x:(Code.seq (Code.region 2 _ false) _)=C
 generalize u:(bodyPostD _ _ _)=B
 go_wp2
 subst x u;refine wp_seq (wp_region_list ?_);refine wpList_plain rfl fun K s=>?_;simp[Oper.wp,go_sem];apply s;refine wpList_plain rfl fun q m=>?_;simp[Oper.wp,go_sem]
 have b:∀v a,Q a->q { tmps:=#[.func (.func h) first cap,undef,.pointer (some ⟨w.heap.size,0,none⟩),.pointer (some ⟨w.heap.size+1,0,none⟩),.func (.func 153) #[] #[.pointer (some ⟨w.heap.size,0,none⟩),.pointer (some ⟨w.heap.size+1,0,none⟩)],.func (.func h) first cap,v],defers:=[{ target:=.fn (.func 153) #[.pointer (some ⟨w.heap.size,0,none⟩),.pointer (some ⟨w.heap.size+1,0,none⟩)],args:=#[] }] } a:=by
  intro v a j;apply m;refine wpList_nil ?_;obtain⟨d,g⟩:=Hq.out a j;have d:a.heap[w.heap.size]?=some (.cells #[.int .i64 0] 3):=d.trans (ycnu w);have g:a.heap[w.heap.size+1]?=some (.cells #[.int .i64 0] 42):=g.trans (yctl w);have c1:a.cell? ⟨w.heap.size,0,none⟩=some (.int .i64 0):=by simp[World.cell?,d]
  have c2:a.cell? ⟨w.heap.size+1,0,none⟩=some (.int .i64 0):=by simp[World.cell?,g]
  have D:a.frozen? ⟨w.heap.size,0,none⟩=false:=by simp[World.frozen?,d]
  have E:a.frozen? ⟨w.heap.size+1,0,none⟩=false:=by simp[World.frozen?,g]
  have y:=(Array.getElem?_eq_some_iff.1 d).1;have z:=(Array.getElem?_eq_some_iff.1 g).1;have HQ:=zV j;clear j
  clear d g
  simp only[Exit.then]
  go_wp2
  refine leaves_cons (f:=153) (args:=#[.pointer (some ⟨w.heap.size,0,none⟩),.pointer (some ⟨w.heap.size+1,0,none⟩)]) (by simp) (by simp[go_sem]) ?_
  refine(catch_idle ⟨w.heap.size,0,none⟩ ⟨w.heap.size+1,0,none⟩ _).mono ?_;rintro e A c ⟨rfl,rfl,l⟩;have o:((a.setCell ⟨w.heap.size,0,none⟩ (.int .i64 0)).setCell ⟨w.heap.size+1,0,none⟩ (.int .i64 0)).heap.size=a.heap.size:=by simp[go_sem]
  rw[o]at l
  have d1:c.cell? ⟨w.heap.size,0,none⟩=some (.int .i64 0):=by
   rw[l.cell y];simp[go_sem,c1]
  have d2:c.cell? ⟨w.heap.size+1,0,none⟩=some (.int .i64 0):=by
   rw[l.cell z];simp[go_sem,c2]
  simp[Leaves,settle,results,Tryz.results118,go_sem,d1,d2];exact⟨a,HQ.out,l⟩
 have k:=RowKit.Hid.out p
 clear p n Hq s
 revert b
 generalize q=K
 intro b;rw[show((w.alloc (Obj.cells #[Value.int IntKind.i64 0] 3)).alloc (Obj.cells #[Value.int IntKind.i64 0] 42))=ygl w from rfl]
 generalize Sem.run zA (callFunc h (first++cap)) (ygl w)=r at k ⊢
 rcases k with⟨rfl,i⟩|⟨v,a,rfl,i⟩
 .rw[Oper.upon_enter];refine i.mono ?_;rintro e a ⟨⟨v,rfl⟩,j⟩;exact b v a j
 .exact b v a i
end
section
namespace Ev
open Go Go.RowKit
theorem yyh(w:World)(k:Nat)(hk:k<w.heap.size):(ygl w).heap[k]?=w.heap[k]?:=by
 unfold ygl;rw[Below.heap_alloc _ _ _ (by simp[go_sem];omega),Below.heap_alloc _ _ _ hk]
theorem yfp(w:World):(ygl w).heap.size=w.heap.size+2:=by simp[ygl,go_sem]
theorem ybri(self:Task->Option Out)(s:yfj zA self)(args:List Value)(m:Mem)(out:Out)(h:ybgc self m args=some out):ycb zA (.call 118 args m) out:=by
 unfold ybgc at h;split at h
 .rename_i g first y
  obtain⟨o,ho,f⟩:=yc h;cases o with
  |code=>cases f
  | call v m1 =>
    cases f
    have hs:=s _ _ ho;intro hw;obtain⟨C,A⟩:=hs hw;refine⟨C,fun I M w K N D hv r=>.inl ⟨ybz ytb zU rfl _ _,?_⟩⟩;obtain⟨u,rfl,hu⟩:=yge hv;obtain⟨G,H,rfl,P,Q⟩:=hu.func_inv;have O:Rel I M (ygl w):=N.keep fun k hk=>yyh w k hk
    have d:∀k,w.heap.size<=k->¬Img I M k:=by
     rintro k hk ⟨i,b,l,n,f,L⟩;obtain⟨l',V,Z⟩:=N.blk i b n;rw[f]at V;cases V
     have:=Z.lt;omega
    have j:=A I M (ygl w) (G++H) O D (P.append Q) r;rw[show(G++H).toArray=G.toArray++H.toArray by simp]at j
    refine(ybqa g G.toArray H.toArray w (fun p=>∃e,ydwk I M (ygl w) m v m1 e p) ?_ ?_).mono ?_
    .rintro p ⟨e,F,rfl,t,J,a,T⟩;exact⟨a.wg.keep _ (by rw[yfp];omega) (d _ (zJ _)),a.wg.keep _ (by rw[yfp];omega) (d _ (by omega))⟩
    .rcases j with⟨n,f⟩|⟨F,p,n,f⟩
     .refine .inl ⟨n,f.mono ?_⟩;intro e p hk;have R:=hk;obtain⟨F,rfl,_⟩:=hk;exact⟨⟨_,rfl⟩,_,R⟩
     .exact .inr ⟨F,p,n,_,f⟩
    .rintro e E ⟨rfl,p,⟨e,F,rfl,t,J,a,T⟩,B⟩;have a2:w.heap.size+2<=p.heap.size:=by rw[<-yfp];exact a.wg.size
     have c:∀k,k<p.heap.size->k≠w.heap.size->k≠w.heap.size+1->E.heap[k]?=p.heap[k]?:=fun k hk n f=>by
      rw[B.block k hk,Below.heap_setCell _ _ _ _ f,Below.heap_setCell _ _ _ _ n]
     have S:∀k,Img t J k->k≠w.heap.size/\k≠w.heap.size+1:=fun k z=>by
      refine⟨?_,?_⟩
      .rintro rfl;exact d _ (zJ _) (a.wg.img _ (by rw[yfp];omega) z)
      .rintro rfl;exact d _ (by omega) (a.wg.img _ (by rw[yfp];omega) z)
     have a0:p.heap.size<=E.heap.size:=by
      have:=B.size
      simpa[go_sem]using this
     refine⟨_,rfl,t,J,⟨a.le,a.out,⟨⟨fun i b n=>?_,a.rel.inj⟩,fun x U=>⟨?_,(a.rel.gl x U).2⟩⟩,a.sub,a.frame,⟨B.os.trans a.wg.os,B.tape.trans a.wg.tape,B.output.trans a.wg.output,by omega,fun k hk z=>?_,fun k hk z=>a.wg.img k (by rw[yfp];omega) z⟩⟩,?_⟩
     .obtain⟨l,f,L⟩:=a.rel.blk i b n;have W:=S l.blk ⟨i,b,l,n,f,rfl⟩;exact⟨l,f,L.keep (c _ L.lt W.1 W.2)⟩
     .obtain⟨e,X,q⟩:=(a.rel.gl x U).1;obtain⟨e0,Y,q0⟩:=(N.gl x U).1;have a1:=(Array.getElem?_eq_some_iff.1 q0).1;exact⟨e,X,(c _ (by omega) (by omega) (by omega)).trans q⟩
     .rw[c k (by omega) (by omega) (by omega),a.wg.keep k (by rw[yfp];omega) z,yyh w k hk]
     .exact .tuple (.cons (.simple rfl) (.cons (.simple rfl) .nil))
 .cases h
end Ev
end
section
namespace Ev
open Go Go.RowKit
def hkC(a:List Chunk):Hooks:=⟨some 118,some 245,some 175,symB,a,none⟩
def hk(a:List Fact):Hooks:=hkC [⟨1000000000000,a⟩]
def ybh(a:List Fact):Prop:=∀f∈a,yel zA f
def ydb(a:List Chunk):Prop:=∀c∈a,ybh c.l
theorem ycwc{a:List Chunk}(h:ydb a):HooksOk zA (hkC a) :=
 ⟨fun g h=>(by cases h;exact ybri),fun g h=>(by cases h;exact yup),fun g h=>(by cases h;exact ycgj),h,fun g h=>(by cases h)⟩
theorem ydb.nil:ydb []:=fun c a=>by cases a
theorem ydb.cons{n:Nat}{l:List Fact}{b:List Chunk}(h:ybh l)(t:ydb b):ydb (⟨n,l⟩::b):=fun c a=>by
 rcases List.mem_cons.1 a with rfl|a
 .exact h
 .exact t c a
theorem yeke{a:List Fact}(h:ybh a):HooksOk zA (hk a):=ycwc (ydb.cons h ydb.nil)
theorem ybh.nil:ybh []:=fun f a=>by cases a
theorem ybh.cons{f:Fact}{l:List Fact}(h:yel zA f)(t:ybh l):ybh (f::l):=fun x a=>by
 rcases List.mem_cons.1 a with rfl|a
 .exact h
 .exact t x a
theorem ybh.at_{f:Fact}{l:List Fact}(h:ybh l)(i:Nat)(e:l[i]?=some f):yel zA f:=h f (zG e)
theorem ybh.append{a b:List Fact}(c:ybh a)(d:ybh b):ybh (a++b):=fun f e=>by
 rcases List.mem_append.1 e with h|h
 .exact c f h
 .exact d f h
noncomputable def checkSeq(new:List Fact):List Fact->Bool:=List.rec (fun _=>true) (fun f _ b a=>f.check zA (hk a)&&b (f::a)) new
theorem ybh.seq:∀{new b:List Fact},ybh b->checkSeq new b=true->ybh new
 |[],_,_,_=>ybh.nil
 | f :: l,b,h,c=>by
   have c:(f.check zA (hk b)&&checkSeq l (f::b))=true:=c;rw[zB]at c;have e:yel zA f:=yur (yxc mix ytb (yeke h) 3000) c.1
   have d:ybh (f::b):=fun x a=>by
    rcases List.mem_cons.1 a with rfl|a
    .exact e
    .exact h x a
   have g:=ybh.seq d c.2;intro x a;rcases List.mem_cons.1 a with rfl|a
   .exact e
   .exact g x a
theorem ybh.one{f:Fact}{a:List Chunk}(h:ydb a)(b:f.check zA (hkC a)=true):ybh [f] :=
 ybh.cons (yur (yxc mix ytb (ycwc h) 3000) b) ybh.nil
def by8(l:List Nat):ByteArray:=⟨(l.map Nat.toUInt8).toArray⟩
end Ev
end
section
namespace Ev
noncomputable section defs
def renA(ρ:Nat->Nat)(a:Addr):Addr:=yhf (ρ a.block) fun b=>⟨b,a.off,a.spot⟩
def ren1(ρ:Nat->Nat):Value->Value
 |.pointer (some a)=>.pointer (some (renA ρ a))
 |.slice (some a) n c=>.slice (some (renA ρ a)) n c
 |v=>v
def ren2(ρ:Nat->Nat):Value->Value
 |.agg a=>.agg (a.toList.map (ren1 ρ)).toArray
 |.func g a c=>.func g (a.toList.map (ren1 ρ)).toArray (c.toList.map (ren1 ρ)).toArray
 |v=>ren1 ρ v
def renV(ρ:Nat->Nat):Value->Value
 |.tuple a=>.tuple (a.toList.map (ren2 ρ)).toArray
 |v=>ren2 ρ v
def yvr:Value->Bool
 |.pointer (some a)=>a.spot.isNone
 |.slice (some a) _ _=>a.spot.isNone
 |v=>simple v
def yot:Value->Bool
 |.agg a=>a.toList.all yvr
 |.func (.func _) a c=>a.toList.all yvr&&c.toList.all yvr
 |v=>yvr v
def ychz:Value->Bool
 |.tuple a=>a.toList.all yot
 |v=>yot v
def ybgk:List BlkL->List Nat->Nat->Nat->Nat
 |b::l,t::k,d,i=>bif zZ b.i i then t else ybgk l k d i
 |_,_,d,_=>d
def Fact.rho(f:Fact)(tgt:List Nat)(n0:Nat)(i:Nat):Nat :=
 bif zW f.next0 i&&zQ i f.next1 then zX (zY i f.next0) n0 else ybgk f.pre tgt (zX n0 (zY f.next1 f.next0)) i
def BlkL.ren(ρ:Nat->Nat)(b:BlkL):BlkL:=⟨yhf (ρ b.i) fun i=>i,b.e,b.z,b.l.map (ren2 ρ)⟩
def Fact.move(f:Fact)(tgt:List Nat)(n0:Nat):Fact :=
 ⟨f.g,f.args.map (ren2 (f.rho tgt n0)),n0,f.pre.map (BlkL.ren (f.rho tgt n0)),renV (f.rho tgt n0) f.v,zX n0 (zY f.next1 f.next0),f.post.map (BlkL.ren (f.rho tgt n0)),n0⟩
def Fact.after(f:Fact):Mem:=⟨f.next1,yiy f.mem.b f.post,f.next0⟩
def yiq:List Nat->Bool
 |[]=>true
 |x::l=>!(l.elem x)&&yiq l
def Fact.moves(f:Fact)(tgt:List Nat)(n0:Nat):Bool :=
 zW f.next0 f.low&&f.args.all yot&&ychz f.v&&f.pre.all (fun b=>zQ b.i f.next0&&b.l.all yot)&&f.post.all (fun b=>zQ b.i f.next1&&b.l.all yot) &&
  yiq ((f.move tgt n0).pre.map (·.i))&&(f.move tgt n0).pre.all (fun b=>zQ b.i n0&&yza (f.move tgt n0).mem b)&&(f.move tgt n0).post.all (yza (f.move tgt n0).after)&&zW f.next0 f.next1
end defs
section
variable {φ φ2:Phi}{ρ:Nat->Nat}
theorem ynn(a:Addr):renA ρ a=⟨ρ a.block,a.off,a.spot⟩:=by unfold renA;rw[ybr]
theorem BlkL.yid(b:BlkL):(b.ren ρ).i=ρ b.i:=by show yhf (ρ b.i) (fun i=>i)=_;rw[ybr]
theorem vr1(d:∀b,φ b=φ2 (ρ b)){v v':Value}(e:yvr v=true):VR φ v v'↔VR φ2 (ren1 ρ v) v':=by
 unfold yvr at e;split at e
 .rename_i a
  obtain⟨b,o,s⟩:=a;have k:s=none:=by simpa using e
  subst k;show VR φ _ _↔VR φ2 (.pointer (some (renA ρ ⟨b,o,none⟩))) v';rw[ynn];constructor
  .intro h;cases h with
   |simple q=>cases q
   |ptr h=>rw[d]at h;exact VR.ptr h
  .intro h;cases h with
   |simple q=>cases q
   |ptr h=>rw[<-d]at h;exact VR.ptr h
 .rename_i a n c
  obtain⟨b,o,s⟩:=a;have k:s=none:=by simpa using e
  subst k;show VR φ _ _↔VR φ2 (.slice (some (renA ρ ⟨b,o,none⟩)) n c) v';rw[ynn];constructor
  .intro h;cases h with
   |simple q=>cases q
   |slice h f g i j=>rw[d]at h;exact VR.slice h f g i j
  .intro h;cases h with
   |simple q=>cases q
   |slice h f g i j=>rw[<-d]at h;exact VR.slice h f g i j
 .rename_i f g
  have l:ren1 ρ v=v:=by
   unfold ren1;split
   .rename_i a;exact absurd rfl (f a)
   .rename_i a n c;exact absurd rfl (g a n c)
   .rfl
  rw[l];constructor
  .intro h;rw[h.eq_simple e];exact VR.simple e
  .intro h;rw[h.eq_simple e];exact VR.simple e
theorem vrl1(a:∀b,φ b=φ2 (ρ b)):∀{l l':List Value},l.all yvr=true->(VRL φ l l'↔VRL φ2 (l.map (ren1 ρ)) l')
 | [],l',_=>by
   constructor
   .intro h;cases h;exact VRL.nil
   .intro h;cases h;exact VRL.nil
 | v :: l,l',c=>by
   simp only[zS,zB]at c;constructor
   .intro h;cases h with
    |cons d e=>exact VRL.cons ((vr1 a c.1).1 d) ((vrl1 a c.2).1 e)
   .intro h;cases h with
    |cons d e=>exact VRL.cons ((vr1 a c.1).2 d) ((vrl1 a c.2).2 e)
theorem vr2(d:∀b,φ b=φ2 (ρ b)){v v':Value}(e:yot v=true):VR φ v v'↔VR φ2 (ren2 ρ v) v':=by
 unfold yot at e;split at e
 .rename_i a
  obtain⟨a⟩:=a;show VR φ (.agg a.toArray) _↔VR φ2 (.agg (a.map (ren1 ρ)).toArray) v';constructor
  .intro h;cases h with
   |simple q=>cases q
   |agg h=>exact VR.agg ((vrl1 d e).1 h)
  .intro h;cases h with
   |simple q=>cases q
   |agg h=>exact VR.agg ((vrl1 d e).2 h)
 .rename_i g a c
  obtain⟨a⟩:=a;obtain⟨c⟩:=c;simp only[zB]at e;show VR φ (.func (.func g) a.toArray c.toArray) _↔VR φ2 (.func (.func g) (a.map (ren1 ρ)).toArray (c.map (ren1 ρ)).toArray) v';constructor
  .intro h;cases h with
   |simple q=>cases q
   |func h k=>exact VR.func ((vrl1 d e.1).1 h) ((vrl1 d e.2).1 k)
  .intro h;cases h with
   |simple q=>cases q
   |func h k=>exact VR.func ((vrl1 d e.1).2 h) ((vrl1 d e.2).2 k)
 .rename_i f j
  have i:ren2 ρ v=ren1 ρ v:=by
   unfold ren2;split
   .rename_i a;exact absurd rfl (f a)
   .rename_i g a c
    cases e
   .rfl
  rw[i];exact vr1 d e
theorem vrl2(a:∀b,φ b=φ2 (ρ b)):∀{l l':List Value},l.all yot=true->(VRL φ l l'↔VRL φ2 (l.map (ren2 ρ)) l')
 | [],l',_=>by
   constructor
   .intro h;cases h;exact VRL.nil
   .intro h;cases h;exact VRL.nil
 | v :: l,l',c=>by
   simp only[zS,zB]at c;constructor
   .intro h;cases h with
    |cons d e=>exact VRL.cons ((vr2 a c.1).1 d) ((vrl2 a c.2).1 e)
   .intro h;cases h with
    |cons d e=>exact VRL.cons ((vr2 a c.1).2 d) ((vrl2 a c.2).2 e)
theorem vrV(c:∀b,φ b=φ2 (ρ b)){v v':Value}(d:ychz v=true)(h:VR φ v v'):VR φ2 (renV ρ v) v':=by
 unfold ychz at d;split at d
 .rename_i a
  obtain⟨a⟩:=a;show VR φ2 (.tuple (a.map (ren2 ρ)).toArray) v';cases h with
  |simple q=>cases q
  |tuple h=>exact VR.tuple ((vrl2 c d).1 h)
 .rename_i e
  have f:renV ρ v=ren2 ρ v:=by
   unfold renV;split
   .rename_i a;exact absurd rfl (e a)
   .rfl
  rw[f];exact(vr2 c d).1 h
theorem ybcp{n:Type}{g:n->Nat}:∀{l:List n},yiq (l.map g)=true->∀a∈l,∀b∈l,g a=g b->a=b
 |[],_,a,i,_,_,_=>by cases i
 | x :: l,h,a,i,b,k,e=>by
   have h:(!(l.map g).elem (g x)&&yiq (l.map g))=true:=h;simp only[zB,Bool.not_eq_true']at h
   have m:∀y∈l,g y≠g x:=fun y o q=>by
    have:(l.map g).elem (g x)=true:=List.elem_eq_true_of_mem (List.mem_map.2 ⟨y,o,q⟩);rw[this]at h;cases h.1
   rcases List.mem_cons.1 i with j|d
   .rcases List.mem_cons.1 k with f|c
    .rw[j,f]
    .exact absurd (by rw[<-e,j]) (m b c)
   .rcases List.mem_cons.1 k with f|c
    .exact absurd (by rw[e,f]) (m a d)
    .exact ybcp h.2 a d b c e
theorem ybtp:∀(l:List BlkL) (k:List Nat) (d i:Nat),ybgk l k d i=d\/∃b∈l,b.i=i
 |[],_,_,_=>.inl rfl
 |_::_,[],_,_=>.inl rfl
 | b :: l,t::k,d,i=>by
   unfold ybgk;rw[zH];split
   .rename_i h;exact .inr ⟨b,List.mem_cons_self,zN h⟩
   .rcases ybtp l k d i with h|⟨c,a,e⟩
    .exact .inl h
    .exact .inr ⟨c,List.mem_cons_of_mem _ a,e⟩
end
theorem yfg{P:Program}{f:Fact}{tgt:List Nat}{n0:Nat}(f3:yel P f)(hc:f.moves tgt n0=true):yel P (f.move tgt n0):=by
 obtain⟨m',hs,e1,e2,e3⟩:=f3;unfold Fact.moves at hc;simp only[zB]at hc;obtain⟨⟨⟨⟨⟨⟨⟨⟨c1,c2⟩,c3⟩,c4⟩,c5⟩,c6⟩,c7⟩,c8⟩,c9⟩:=hc;have c1:=zC c1;have c9:=zC c9;obtain⟨ρ,d0⟩:∃ρ,f.rho tgt n0=ρ:=⟨_,rfl⟩;obtain⟨o,d8⟩:∃o,n0+(f.next1-f.next0)=o:=⟨_,rfl⟩
 have f1:f.move tgt n0=⟨f.g,f.args.map (ren2 ρ),n0,f.pre.map (BlkL.ren ρ),renV ρ f.v,o,f.post.map (BlkL.ren ρ),n0⟩:=by
  unfold Fact.move;rw[d0,<-d8];rfl
 rw[f1]at c6 c7 c8 ⊢;simp only at c6 c7 c8
 have K:∀b∈f.pre,b.i<f.next0/\b.l.all yot=true:=fun b a=>by
  have:=List.all_eq_true.1 c4 b a;simp only[zB]at this;exact⟨zF (zI _) (zC this.1),this.2⟩
 have W:∀b∈f.post,b.i<f.next1/\b.l.all yot=true:=fun b a=>by
  have:=List.all_eq_true.1 c5 b a;simp only[zB]at this;exact⟨zF (zI _) (zC this.1),this.2⟩
 have d5:∀b∈f.pre,∀c∈f.pre,ρ b.i=ρ c.i->b=c:=by
  rw[List.map_map]at c6;intro b a c hc he;exact ybcp c6 b a c hc (by show(b.ren ρ).i=(c.ren ρ).i;rw[b.yid,c.yid];exact he)
 have b2:∀b∈f.pre,ρ b.i<n0/\yza (Fact.mem ⟨f.g,f.args.map (ren2 ρ),n0,f.pre.map (BlkL.ren ρ),renV ρ f.v,o,f.post.map (BlkL.ren ρ),n0⟩) (b.ren ρ)=true:=fun b a=>by
  have:=List.all_eq_true.1 c7 (b.ren ρ) (List.mem_map.2 ⟨b,a,rfl⟩);simp only[zB]at this;have L:=zF (zI _) (zC this.1);rw[b.yid]at L;exact⟨L,this.2⟩
 have G:∀i,f.next0<=i->i<f.next1->ρ i=i-f.next0+n0:=fun i L h2=>by
  rw[<-d0];unfold Fact.rho;rw[zH,if_pos (by simp only[zB];exact⟨zO L,zO h2⟩)]
  rfl
 have d9:∀i,¬(f.next0<=i/\i<f.next1)->ρ i=o\/ρ i<n0:=fun i F=>by
  have L:ρ i=ybgk f.pre tgt o i:=by
   rw[<-d0,<-d8];unfold Fact.rho;rw[zH,if_neg]
   .rfl
   .simp only[zB];exact fun q=>F ⟨zC q.1,zF (zI _) (zC q.2)⟩
  rcases ybtp f.pre tgt o i with h|⟨b,a,rfl⟩
  .exact .inl (L.trans h)
  .exact .inr (b2 b a).1
 have d7:n0<=o:=by omega
 let f2:Fact:=⟨f.g,f.args.map (ren2 ρ),n0,f.pre.map (BlkL.ren ρ),renV ρ f.v,o,f.post.map (BlkL.ren ρ),n0⟩
 have s:∀i x,f.mem.b.get i=some x->∃b∈f.pre,b.i=i/\x=b.blk:=fun i x d=>by
  rcases ykk d with h|h
  .exact h
  .cases h
 have b8:∀i x,f2.mem.b.get i=some x->∃b∈f.pre,ρ b.i=i/\x=(b.ren ρ).blk:=fun i x d=>by
  rcases ykk d with⟨b',N,L,h2⟩|h
  .obtain⟨b,a,rfl⟩:=List.mem_map.1 N;rw[b.yid]at L;exact⟨b,a,L,h2⟩
  .cases h
 have a8:∀b∈f.post,f.next0<=b.i/\b.i<f.next1/\∃c,m'.b.get b.i=some (.cells c b.l.length b.e b.z)/\∀j v,j<b.l.length->(c.get j=some v↔b.l[j]?=some v):=fun b a=>by
  obtain⟨c,H,_,k2⟩:=ykf (e3 b a).2;exact⟨Nat.le_trans c1 (e3 b a).1,(W b a).1,c,H,k2⟩
 have B:∀i x,(yiy f2.mem.b f2.post).get i=some x->(∃b∈f.post,ρ b.i=i/\x=(b.ren ρ).blk)\/f2.mem.b.get i=some x:=fun i x d=>by
  rcases ykk d with⟨b',N,L,h2⟩|h
  .obtain⟨b,a,rfl⟩:=List.mem_map.1 N;rw[b.yid]at L;exact .inl ⟨b,a,L,h2⟩
  .exact .inr h
 have a9:∀b∈f.post,n0<=ρ b.i/\ρ b.i<o:=fun b a=>by
  obtain⟨H,k2,_⟩:=a8 b a;rw[G b.i H k2];omega
 have e4:Wf f.mem:=fun i x d=>by
  obtain⟨b,a,rfl,rfl⟩:=s i x d;exact(K b a).1
 refine⟨f2.after,?_,rfl,zJ _,fun b a=>?_⟩
 .intro hw;obtain⟨E,S⟩:=hs e4;refine⟨⟨d7,fun i x d=>?_,fun i x F Q d=>?_,fun i x d=>?_⟩,fun φ2 M2 w b6 hR b5 hv b1=>?_⟩
  .rcases B i x d with⟨b,a,rfl,rfl⟩|h
   .exact .inr (a9 b a)
   .exact .inl ⟨x,h⟩
  .rcases B i x d with⟨b,a,rfl,rfl⟩|h
   .exact absurd (a9 b a) Q
   .exact h
  .show i<o;rcases B i x d with⟨b,a,rfl,rfl⟩|h
   .exact(a9 b a).2
   .exact zF (hw i x h) d7
  .have b1:∀i,n0<=i->i<o->φ2 i=none:=b1
   let φ:Phi:=fun b=>φ2 (ρ b)
   let M:AM:=fun i=>f.mem.b.get i
   have e5:∀b,φ b=φ2 (ρ b):=fun _=>rfl
   have a0:∀b∈f.pre,∃c,M2 (ρ b.i)=some (.cells c b.l.length b.e b.z)/\∀j v,j<b.l.length->(c.get j=some v↔(b.l.map (ren2 ρ))[j]?=some v):=fun b a=>by
    obtain⟨c,H,_,k2⟩:=ykf (b2 b a).2;rw[b.yid]at H;have el:(b.ren ρ).l.length=b.l.length:=zM ..;rw[el]at H k2;exact⟨c,b5 _ _ H,k2⟩
   have a6:∀{l:List Value}{j:Nat}{v:Value},l[j]?=some v->(l.map (ren2 ρ))[j]?=some (ren2 ρ v):=fun h=>by rw[zL,h];rfl
   have d2:Rel φ M w:=by
    refine⟨⟨fun i x d=>?_,fun i j x y li lj Z d hy O D=>?_⟩,fun z hz=>⟨(hR.gl z hz).1,fun⟨i,x,l,X,U,a3⟩=>(hR.gl z hz).2 (by
     obtain⟨b,a,rfl,rfl⟩:=s i x X;obtain⟨c,H,_⟩:=a0 b a;exact⟨_,_,l,H,U,a3⟩)⟩⟩
    .obtain⟨b,a,rfl,rfl⟩:=s i x d;obtain⟨c,H,k2⟩:=a0 b a;obtain⟨l,R,r2,r3,cs,qe,qf,q0,r4,r5,r6⟩:=hR.blk _ _ H;refine⟨l,R,r2,r3,cs,qe,qf,q0,r4,r5,fun j v m Y=>?_⟩;have e0:=yng Y;obtain⟨v',s1,s2⟩:=r6 j _ m ((k2 j _ m).2 (a6 e0));exact⟨v',s1,(vr2 e5 (List.all_eq_true.1 (K b a).2 v (zG e0))).2 s2⟩
    .obtain⟨b,a,rfl,rfl⟩:=s i x d;obtain⟨c,hc,rfl,rfl⟩:=s j y hy;obtain⟨cb,H,_⟩:=a0 b a;obtain⟨cc,k2,_⟩:=a0 c hc;exact hR.inj _ _ _ _ li lj (fun q=>Z (by rw[d5 b a c hc q])) H k2 O D
   have d3:Sub f.mem M:=fun i x d=>d
   have e6:yhu φ f.mem.next m'.next:=fun i L h2=>by
    rw[e1]at h2;have L:f.next0<=i:=L;show φ2 (ρ i)=none;rw[G i L h2];exact b1 _ (by omega) (by omega)
   refine(S φ M w b6 d2 d3 ((vrl2 e5 c2).2 hv) e6).mono ?_;rintro e w' ⟨v',rfl,I,M',n,f4⟩;have a7:∀i,¬(f.next0<=i/\i<f.next1)->I i=φ i:=fun i F=>n.out i (by rw[e1];exact F)
   have V:∀i,¬(f.next0<=i/\i<f.next1)->(f.mem.b.get i=none\/i<f.next0)->M' i=M i:=fun i F hn =>
    n.frame i (by rw[e1];exact F) (hn.imp id fun q=>by omega)
   let T:Phi:=fun j=>if n0<=j/\j<o then I (j-n0+f.next0)else φ2 j
   let M3:AM:=fun j=>if n0<=j/\j<o then f2.after.b.get j else M2 j
   have t:∀b,I b=T (ρ b):=fun b=>by
    by_cases a:f.next0<=b/\b<f.next1
    .have hr:=G b a.1 a.2;have:n0<=ρ b/\ρ b<o:=by rw[hr];omega
     show I b=if n0<=ρ b/\ρ b<o then I (ρ b-n0+f.next0)else φ2 (ρ b)
     rw[if_pos this,hr];congr 1;omega
    .have:¬(n0<=ρ b/\ρ b<o):=by rcases d9 b a with h|h<;>omega
     show I b=if n0<=ρ b/\ρ b<o then I (ρ b-n0+f.next0)else φ2 (ρ b)
     rw[if_neg this,a7 b a]
   have b4:φ2.le T:=fun j l m=>by
    have:¬(n0<=j/\j<o):=fun q=>by rw[b1 j q.1 q.2]at m;cases m
    show(if n0<=j/\j<o then I (j-n0+f.next0)else φ2 j)=some l
    rw[if_neg this];exact m
   have r:∀j,¬(n0<=j/\j<o)->T j=φ2 j:=fun j m=>if_neg m;have A:∀j,¬(n0<=j/\j<o)->M3 j=M2 j:=fun j m=>if_neg m;have b3:∀j,n0<=j/\j<o->M3 j=f2.after.b.get j:=fun j m=>if_pos m
   have J:∀j x,n0<=j/\j<o->M3 j=some x->∃b∈f.post,ρ b.i=j/\x=(b.ren ρ).blk:=fun j x m d=>by
    rw[b3 j m]at d;rcases B j x d with h|h
    .exact h
    .obtain⟨b,a,rfl,_⟩:=b8 j x h;have:=(b2 b a).1;omega
   have C:∀b∈f.post,∃l c,I b.i=some l/\M' b.i=some (.cells c b.l.length b.e b.z)/\BR T l w' (b.ren ρ).blk/\¬l.blk<w.heap.size:=fun b a=>by
    obtain⟨H,k2,c,k3,k4⟩:=a8 b a;have hM:=n.sub _ _ k3;obtain⟨l,R,r2,r3,cs,qe,qf,q0,r4,r5,r6⟩:=n.rel.blk _ _ hM;have el:(b.ren ρ).l.length=b.l.length:=zM ..;refine⟨l,c,R,hM,⟨r2,by rw[el];exact r3,cs,qe,qf,q0,r4,r5,fun j v m Y=>?_⟩,fun f0=>?_⟩
    .rw[el]at m;have Y:=yng Y;have a4:(b.l.map (ren2 ρ))[j]?=some v:=Y;rw[zL]at a4;cases hq:b.l[j]? with
     |none=>rw[hq]at a4;cases a4
     | some u =>
       rw[hq]at a4;cases a4
       obtain⟨v',s1,s2⟩:=r6 j u m ((k4 j u m).2 hq);exact⟨v',s1,(vr2 t (List.all_eq_true.1 (W b a).2 u (zG hq))).1 s2⟩
    .obtain⟨i,x,l',X,U,a3⟩:=n.wg.img l.blk f0 ⟨_,_,l,hM,R,rfl⟩;obtain⟨p,hp,rfl,rfl⟩:=s i x X;have c0:=(K p hp).1;have Q:¬(f.next0<=p.i/\p.i<f.next1):=fun q=>by omega
     have b7:=V p.i Q (.inr c0);exact n.rel.inj p.i b.i _ _ l' l (by omega) (b7.trans X) hM ((a7 p.i Q).trans U) R a3
   have b9:∀j x l,¬(n0<=j/\j<o)->M2 j=some x->φ2 j=some l->BR T l w' x:=fun j x l m d hl=>by
    obtain⟨l0,q1,q2⟩:=hR.blk j x d;rw[hl]at q1;cases q1
    by_cases d4:Img φ M l.blk
    .obtain⟨i,y,l',X,U,a3⟩:=d4;obtain⟨p,hp,rfl,rfl⟩:=s i y X;obtain⟨c,H,k2⟩:=a0 p hp
     have e8:j=ρ p.i:=by
      apply zT;intro Z;exact hR.inj _ _ _ _ l l' Z d H hl U a3.symm
     subst e8;rw[H]at d;cases d
     have d1:φ2 (ρ p.i)=some l':=U;rw[hl]at d1;cases d1
     have c0:=(K p hp).1;have Q:¬(f.next0<=p.i/\p.i<f.next1):=fun q=>by omega
     have b7:=(V p.i Q (.inr c0)).trans X;obtain⟨l2,R,r2,r3,cs,qe,qf,q0,r4,r5,r6⟩:=n.rel.blk _ _ b7;rw[a7 p.i Q,U]at R;cases R
     refine⟨r2,r3,cs,qe,qf,q0,r4,r5,fun j v d6 Y=>?_⟩;have Y:=(k2 j v d6).1 Y;rw[zL]at Y;cases hq:p.l[j]? with
     |none=>rw[hq]at Y;cases Y
     | some u =>
       rw[hq]at Y;cases Y
       have f5:p.l.length<1000000:=by
        obtain⟨_,_,e9,_⟩:=ykf (b2 p hp).2;have el:(p.ren ρ).l.length=p.l.length:=zM ..
        rwa [el]at e9
       obtain⟨v',s1,s2⟩:=r6 j u d6 (by rw[ycgc (by omega)];exact hq)
       exact⟨v',s1,(vr2 t (List.all_eq_true.1 (K p hp).2 u (zG hq))).1 s2⟩
    .exact(q2.keep (n.wg.keep _ q2.lt d4)).mono b4
   have a5:∀k,k<w.heap.size->Img T M3 k->Img φ2 M2 k:=fun k hk hq=>by
    obtain⟨i,x,l,X,U,rfl⟩:=hq
    by_cases F:n0<=i/\i<o
    .obtain⟨b,a,rfl,rfl⟩:=J i x F X;obtain⟨l',c,R,_,_,r4⟩:=C b a;rw[<-t,R]at U;cases U
     exact absurd hk r4
    .rw[A i F]at X;rw[r i F]at U;exact⟨i,x,l,X,U,rfl⟩
   refine⟨v',rfl,T,M3,⟨b4,r,⟨⟨fun j x d=>?_,fun i j x y li lj Z d hy O D=>?_⟩,fun z hz=>⟨(n.rel.gl z hz).1,fun q=>(hR.gl z hz).2 (a5 _ (Array.getElem?_eq_some_iff.1 (hR.gl z hz).1.choose_spec.choose_spec).1 q)⟩⟩,fun i x d=>?_,fun i F _=>A i F,⟨n.wg.os,n.wg.tape,n.wg.output,n.wg.size,fun k hk hn=>?_,fun k hk hq=>?_⟩⟩,vrV t c3 f4⟩
   .by_cases m:n0<=j/\j<o
    .obtain⟨b,a,rfl,rfl⟩:=J j x m d;obtain⟨l,c,R,_,r3,_⟩:=C b a;exact⟨l,by rw[<-t];exact R,r3⟩
    .rw[A j m]at d;obtain⟨l,q1,_⟩:=hR.blk j x d;exact⟨l,by rw[r j m];exact q1,b9 j x l m d q1⟩
   .by_cases F:n0<=i/\i<o
    .obtain⟨b,a,rfl,rfl⟩:=J i x F d;obtain⟨l,c,R,r2,_,r4⟩:=C b a;rw[<-t,R]at O;cases O
     by_cases m:n0<=j/\j<o
     .obtain⟨b',N,rfl,rfl⟩:=J j y m hy;obtain⟨l',c',s1,s2,_,_⟩:=C b' N;rw[<-t,s1]at D;cases D
      exact n.rel.inj _ _ _ _ _ _ (fun q=>Z (by rw[q])) r2 s2 R s1
     .rw[A j m]at hy;rw[r j m]at D;obtain⟨l',q1,q2⟩:=hR.blk j y hy;rw[D]at q1;cases q1
      exact fun q=>r4 (by rw[q];exact q2.lt)
    .rw[A i F]at d;rw[r i F]at O
     by_cases m:n0<=j/\j<o
     .obtain⟨b',N,rfl,rfl⟩:=J j y m hy;obtain⟨l',c',s1,s2,_,s4⟩:=C b' N;rw[<-t,s1]at D;cases D
      obtain⟨l0,q1,q2⟩:=hR.blk i x d;rw[O]at q1;cases q1
      exact fun q=>s4 (by rw[<-q];exact q2.lt)
     .rw[A j m]at hy;rw[r j m]at D;exact hR.inj i j x y li lj Z d hy O D
   .show M3 i=some x
    by_cases F:n0<=i/\i<o
    .rw[b3 i F];exact d
    .rw[A i F];rcases B i x d with⟨b,a,rfl,rfl⟩|h
     .exact absurd (a9 b a) F
     .exact b5 i x h
   .refine n.wg.keep k hk fun⟨i,x,l,X,U,a3⟩=>hn ?_;obtain⟨b,a,rfl,rfl⟩:=s i x X;obtain⟨c,H,_⟩:=a0 b a;exact⟨_,_,l,H,U,a3⟩
   .exact a5 k hk hq
 .obtain⟨b0,e7,rfl⟩:=List.mem_map.1 a;refine⟨?_,List.all_eq_true.1 c8 _ a⟩;show n0<=(b0.ren ρ).i;rw[b0.yid];exact(a9 b0 e7).1
end Ev
end
section
namespace Ev
def Nqii(n:Int):Value:=.int .i64 n
def NqiL:List Int->List Value
 |[]=>[]
 |n::l=>.int .i64 n::NqiL l
def NqiA(l:List Int):Array Value:=⟨NqiL l⟩
def Nqnx(g:Nat)(t:ByteArray)(a:Int)(n:Nat)(l:List Int)(e:Int)(m:Nat):Fact:=⟨g,[.string t,.int .i64 a],n,[],.tuple #[.agg (NqiA l),.int .i64 e],m,[],n⟩
def yw:ByteArray:=by8 [112,114,111,103,114,97,109,32,101,108,101,99,116,105,111,110,59,10,118,97,114,32,104,32,58,32,48,32,46,46,32,110,59,10,118,97,114,32,108,32,58,32,98,111,111,108,59,10,114,117,108,101,32,102,105,120,58,32,104,32,33,61,32,40,100,101,103,32,60,32,50,32,63,32,48,32,58,32,40,115,101,99,111,110,100,40,113,46,104,41,32,60,32,110,32,63,32,115,101,99,111,110,100,40,113,46,104,41,32,43,32,49,32,58,32,110,41,41,32,45,62,32,104,32,58,61,32,40,100,101,103,32,60,32,50,32,63,32,48,32,58,32,40,115,101,99,111,110,100,40,113,46,104,41,32,60,32,110,32,63,32,115,101,99,111,110,100,40,113,46,104,41,32,43,32,49,32,58,32,110,41,41,59,10,114,117,108,101,32,100,114,111,112,58,32,108,32,38,38,32,33,97,108,108,40,113,46,104,32,60,61,32,104,41,32,45,62,32,108,32,58,61,32,102,97,108,115,101,59,10,114,117,108,101,32,116,97,107,101,58,32,33,108,32,38,38,32,97,108,108,40,113,46,104,32,60,32,104,41,32,45,62,32,108,32,58,61,32,116,114,117,101,59,10,114,117,108,101,32,116,105,101,58,32,104,32,60,32,110,32,38,38,32,97,108,108,40,113,46,104,32,60,61,32,104,41,32,38,38,32,115,111,109,101,40,113,46,104,32,61,61,32,104,32,38,38,32,113,46,108,32,61,61,32,108,41,32,45,62,32,108,32,58,61,32,33,108,59,10]
def yuv:List Value:=(NqiL [1,0,7,0,1,8,16,0,3,16,17,0,1,18,21,0,1,22,23,0,3,24,25,0,2,26,27,0,3,28,30,0,1,31,32,0,3,32,33,0,1,34,37,0,1,38,39,0,3,40,41,0,1,42,46,0,3,46,47,0,1,48,52,0,1,53,56,0,3,56,57,0,1,58,59,0,3,60,62,0,3,63,64,0,1,64,67,0,3,68,69,0,2,70,71,2,3,72,73,0,2,74,75,0,3,76,77,0,3,78,79,0,1,79,85,0,3,85,86,0,1,86,87,0,3,87,88,0,1,88,89,0,3,89,90,0,3,91,92,0,1,93,94,0,3,95,96,0,1,97,103,0,3,103,104,0,1,104,105,0,3,105,106,0,1,106,107,0,3,107,108,0,3,109,110,0,2,111,112,1,3,113,114,0,1,115,116,0,3,116,117,0,3,117,118,0,3,119,121,0,1,122,123,0,3,124,126,0,3,127,128,0,1,128,131,0,3,132,133,0,2,134,135,2,3,136,137,0,2,138,139,0,3,140,141,0,3,142,143,0,1,143,149,0,3,149,150,0,1,150,151,0,3,151,152,0,1,152,153,0,3,153,154,0,3,155,156,0,1,157,158,0,3,159,160,0,1,161,167,0,3,167,168,0,1,168,169,0,3,169,170,0,1,170,171,0,3,171,172,0,3,173,174,0,2,175,176,1,3,177,178,0,1,179,180,0,3,180,181,0,3,181,182,0,3,182,183,0,1,184,188,0,1,189,193,0,3,193,194,0,1,195,196,0,3,197,199,0,3,200,201,0,1,201,204,0,3,204,205,0,1,205,206,0,3,206,207,0,1,207,208,0,3,209,211,0,1,212,213,0,3,213,214,0,3,215,217,0,1,218,219,0,3,220,222,0,1,223,228,0,3,228,229,0,1,230,234,0,1,235,239,0,3,239,240,0,3,241,242,0,1,242,243,0,3,244,246,0,1,247,250,0,3,250,251,0,1,251,252,0,3,252,253,0,1,253,254,0,3,255,256,0,1,257,258,0,3,258,259,0,3,260,262,0,1,263,264,0,3,265,267,0,1,268,272,0,3,272,273,0,1,274,278,0,1,279,282,0,3,282,283,0,1,284,285,0,3,286,287,0,1,288,289,0,3,290,292,0,1,293,296,0,3,296,297,0,1,297,298,0,3,298,299,0,1,299,300,0,3,301,303,0,1,304,305,0,3,305,306,0,3,307,309,0,1,310,314,0,3,314,315,0,1,315,316,0,3,316,317,0,1,317,318,0,3,319,321,0,1,322,323,0,3,324,326,0,1,327,328,0,3,328,329,0,1,329,330,0,3,331,333,0,1,334,335,0,3,335,336,0,3,337,339,0,1,340,341,0,3,342,344,0,3,345,346,0,1,346,347,0,3,347,348,0])
def Nqb0:BlkL:=⟨1236,251,2,(NqiL [36,0,5,0,43,0,37,0,9,0,1,2,1,0,43,0,37,0,28,0,12,0,6,0,33,0,28,0,12,0,1,1,6,0])⟩
def Nqb1:BlkL:=⟨1392,251,2,(NqiL [43,0,37,0,9,0,1,2,1,0,43,0,37,0,28,0,12,0,6,0,33,0,28,0,12,0,1,1,6,0])⟩
def Nqb2:BlkL:=⟨1401,203,2,[Nqii 0,.slice (some ⟨1392,0,none⟩) 15 CU]⟩
def Nqb3:BlkL:=⟨1474,251,2,(NqiL [41,0,5,1,19,0,20,0,38,0,12,0,5,0])⟩
def Nqb4:BlkL:=⟨1487,251,2,(NqiL [3,0])⟩
def Nqb5:BlkL:=⟨1494,203,2,[Nqii 1,.slice (some ⟨1487,0,none⟩) 1 1]⟩
def Nqb6:BlkL:=⟨1567,251,2,(NqiL [41,0,19,0,5,1,20,0,37,0,12,0,5,0])⟩
def Nqb7:BlkL:=⟨1580,251,2,(NqiL [2,0])⟩
def Nqb8:BlkL:=⟨1587,203,2,[Nqii 1,.slice (some ⟨1580,0,none⟩) 1 1]⟩
def Nqb9:BlkL:=⟨1745,251,2,(NqiL [41,0,41,0,37,0,5,0,6,0,20,0,38,0,12,0,5,0,21,0,41,0,35,0,12,0,5,0,35,0,12,1,5,1])⟩
def ybxw:BlkL:=⟨1764,251,2,(NqiL [19,0,5,1])⟩
def ybxj:BlkL:=⟨1771,203,2,[Nqii 1,.slice (some ⟨1764,0,none⟩) 2 CU]⟩
end Ev
end
section
namespace Ev
def ydze:List Fact:=[⟨159,[.pointer (some ⟨1022,0,none⟩)],1501,[⟨1021,178,4,yuv⟩,⟨1022,144,0,[.string yw,.slice (some ⟨1021,408,none⟩) 54 CU,.slice (some ⟨1060,0,none⟩) 2 CU,.string (by8 [101,108,101,99,116,105,111,110]),.slice (some ⟨1062,0,none⟩) 2 CU,.slice (some ⟨1498,0,none⟩) 2 CU,.slice (some ⟨1412,0,none⟩) 2 CU]⟩,⟨1060,9,1,[.string (by8 [104]),.string (by8 [108])]⟩,⟨1062,160,6,[.string (by8 [104]),Nqii 1,Nqii 0,Nqii 0,Nqii 1,Nqii 0,.string (by8 [108]),Nqii 2,Nqii 0,Nqii 0,Nqii 0,Nqii 0]⟩,Nqb0,Nqb1,Nqb2,⟨1412,9,1,[.string (by8 [102,105,120]),.string (by8 [100,114,111,112])]⟩,Nqb3,Nqb4,Nqb5,⟨1498,193,3,[.string (by8 [102,105,120]),.slice (some ⟨1236,0,none⟩) 17 CU,.slice (some ⟨1401,0,none⟩) 1 CU,.string (by8 [100,114,111,112]),.slice (some ⟨1474,0,none⟩) 7 CU,.slice (some ⟨1494,0,none⟩) 1 CU]⟩],.tuple #[],1592,[⟨1022,144,0,[.string yw,.slice (some ⟨1021,480,none⟩) 36 CU,.slice (some ⟨1060,0,none⟩) 2 CU,.string (by8 [101,108,101,99,116,105,111,110]),.slice (some ⟨1062,0,none⟩) 2 CU,.slice (some ⟨1591,0,none⟩) 3 CU,.slice (some ⟨1505,0,none⟩) 3 CU]⟩,⟨1060,9,1,[.string (by8 [104]),.string (by8 [108])]⟩,⟨1062,160,6,[.string (by8 [104]),Nqii 1,Nqii 0,Nqii 0,Nqii 1,Nqii 0,.string (by8 [108]),Nqii 2,Nqii 0,Nqii 0,Nqii 0,Nqii 0]⟩,Nqb0,Nqb1,Nqb2,Nqb3,Nqb4,Nqb5,⟨1505,9,1,[.string (by8 [102,105,120]),.string (by8 [100,114,111,112]),.string (by8 [116,97,107,101])]⟩,Nqb6,Nqb7,Nqb8,⟨1591,193,3,[.string (by8 [102,105,120]),.slice (some ⟨1236,0,none⟩) 17 CU,.slice (some ⟨1401,0,none⟩) 1 CU,.string (by8 [100,114,111,112]),.slice (some ⟨1474,0,none⟩) 7 CU,.slice (some ⟨1494,0,none⟩) 1 CU,.string (by8 [116,97,107,101]),.slice (some ⟨1567,0,none⟩) 7 CU,.slice (some ⟨1587,0,none⟩) 1 CU]⟩],1022⟩]
theorem ycgr:ybh ydze:=ybh.seq ybh.nil (by kernel_rfl)
def ydyh:List Fact:=[⟨212,[.pointer (some ⟨1022,0,none⟩),Nqii 3],1671,[⟨1021,178,4,yuv⟩,⟨1022,144,0,[.string yw,.slice (some ⟨1021,544,none⟩) 20 CU,.slice (some ⟨1060,0,none⟩) 2 CU,.string (by8 [101,108,101,99,116,105,111,110]),.slice (some ⟨1062,0,none⟩) 2 CU,.slice (some ⟨1591,0,none⟩) 3 CU,.slice (some ⟨1598,0,none⟩) 4 CU]⟩,⟨1060,9,1,[.string (by8 [104]),.string (by8 [108])]⟩,⟨1062,160,6,[.string (by8 [104]),Nqii 1,Nqii 0,Nqii 0,Nqii 1,Nqii 0,.string (by8 [108]),Nqii 2,Nqii 0,Nqii 0,Nqii 0,Nqii 0]⟩,Nqb0,Nqb1,Nqb2,Nqb3,Nqb4,Nqb5,Nqb6,Nqb7,Nqb8,⟨1591,193,3,[.string (by8 [102,105,120]),.slice (some ⟨1236,0,none⟩) 17 CU,.slice (some ⟨1401,0,none⟩) 1 CU,.string (by8 [100,114,111,112]),.slice (some ⟨1474,0,none⟩) 7 CU,.slice (some ⟨1494,0,none⟩) 1 CU,.string (by8 [116,97,107,101]),.slice (some ⟨1567,0,none⟩) 7 CU,.slice (some ⟨1587,0,none⟩) 1 CU]⟩,⟨1598,9,1,[.string (by8 [102,105,120]),.string (by8 [100,114,111,112]),.string (by8 [116,97,107,101]),.string (by8 [116,105,101])]⟩],.slice (some ⟨1738,0,none⟩) 8 CU,1742,[⟨1022,144,0,[.string yw,.slice (some ⟨1021,600,none⟩) 6 CU,.slice (some ⟨1060,0,none⟩) 2 CU,.string (by8 [101,108,101,99,116,105,111,110]),.slice (some ⟨1062,0,none⟩) 2 CU,.slice (some ⟨1591,0,none⟩) 3 CU,.slice (some ⟨1598,0,none⟩) 4 CU]⟩,⟨1060,9,1,[.string (by8 [104]),.string (by8 [108])]⟩,⟨1062,160,6,[.string (by8 [104]),Nqii 1,Nqii 0,Nqii 0,Nqii 1,Nqii 0,.string (by8 [108]),Nqii 2,Nqii 0,Nqii 0,Nqii 0,Nqii 0]⟩,Nqb0,Nqb1,Nqb2,Nqb3,Nqb4,Nqb5,Nqb6,Nqb7,Nqb8,⟨1591,193,3,[.string (by8 [102,105,120]),.slice (some ⟨1236,0,none⟩) 17 CU,.slice (some ⟨1401,0,none⟩) 1 CU,.string (by8 [100,114,111,112]),.slice (some ⟨1474,0,none⟩) 7 CU,.slice (some ⟨1494,0,none⟩) 1 CU,.string (by8 [116,97,107,101]),.slice (some ⟨1567,0,none⟩) 7 CU,.slice (some ⟨1587,0,none⟩) 1 CU]⟩,⟨1598,9,1,[.string (by8 [102,105,120]),.string (by8 [100,114,111,112]),.string (by8 [116,97,107,101]),.string (by8 [116,105,101])]⟩,⟨1738,251,2,(NqiL [21,0,41,0,35,0,12,0,5,0,35,0,12,1,5,1])⟩],1022⟩]
theorem ycmv:ybh ydyh:=ybh.seq ybh.nil (by kernel_rfl)
def ycet:Fact:=⟨164,[.agg #[.string (by8 [102,105,120]),.slice (some ⟨1236,0,none⟩) 17 CU,.slice (some ⟨1401,0,none⟩) 1 CU],Nqii 2],1791,[Nqb0,Nqb1,Nqb2],.bool true,1986,[],1791⟩
def ycan:Fact:=⟨164,[.agg #[.string (by8 [116,105,101]),.slice (some ⟨1745,0,none⟩) 17 CU,.slice (some ⟨1771,0,none⟩) 1 CU],Nqii 2],2091,[Nqb9,ybxw,ybxj],.bool true,2208,[],2091⟩
def yebl:List Fact:=[ycet,ycan]
theorem yxl:ybh yebl:=ybh.seq ybh.nil (by kernel_rfl)
end Ev
end
section
namespace Ev
def ycbw:Fact:=⟨166,[.agg #[.string (by8 [102,105,120]),.slice (some ⟨1236,0,none⟩) 17 CU,.slice (some ⟨1401,0,none⟩) 1 CU],.slice (some ⟨2209,0,none⟩) 2 2],2213,[Nqb0,Nqb1,Nqb2,⟨2209,3,1,(NqiL [1,2])⟩],.bool true,2537,[],2213⟩
def yebw:List Fact:=[ycbw]
theorem ybli:ybh yebw:=ybh.seq ybh.nil (by kernel_rfl)
def ychf:Fact:=⟨166,[.agg #[.string (by8 [116,105,101]),.slice (some ⟨1745,0,none⟩) 17 CU,.slice (some ⟨1771,0,none⟩) 1 CU],.slice (some ⟨2209,0,none⟩) 2 2],2708,[Nqb9,ybxw,ybxj,⟨2209,3,1,(NqiL [1,2])⟩],.bool true,2902,[],2708⟩
def ydyy:List Fact:=[ychf]
theorem ybjf:ybh ydyy:=ybh.seq ybh.nil (by kernel_rfl)
end Ev
end
section
namespace Ev
def ydvw:List Fact:=[⟨120,[.agg #[.string (by8 [101,108,101,99,116,105,111,110]),.slice (some ⟨1062,0,none⟩) 2 CU,.slice (some ⟨1775,0,none⟩) 4 CU]],1776,[⟨1062,160,6,[.string (by8 [104]),Nqii 1,Nqii 0,Nqii 0,Nqii 1,Nqii 0,.string (by8 [108]),Nqii 2,Nqii 0,Nqii 0,Nqii 0,Nqii 0]⟩,Nqb0,Nqb1,Nqb2,Nqb3,Nqb4,Nqb5,Nqb6,Nqb7,Nqb8,Nqb9,ybxw,ybxj,⟨1775,193,3,[.string (by8 [102,105,120]),.slice (some ⟨1236,0,none⟩) 17 CU,.slice (some ⟨1401,0,none⟩) 1 CU,.string (by8 [100,114,111,112]),.slice (some ⟨1474,0,none⟩) 7 CU,.slice (some ⟨1494,0,none⟩) 1 CU,.string (by8 [116,97,107,101]),.slice (some ⟨1567,0,none⟩) 7 CU,.slice (some ⟨1587,0,none⟩) 1 CU,.string (by8 [116,105,101]),.slice (some ⟨1745,0,none⟩) 17 CU,.slice (some ⟨1771,0,none⟩) 1 CU]⟩],Nqii 0,2902,[],1776⟩]
theorem ycfb:ybh ydvw:=ybh.seq (ybh.append yxl (ybh.append ybli ybjf)) (by kernel_rfl)
def Nqm0:Fact:=ycet.move [1236,1392,1401] 2919
theorem ydso:yel zA Nqm0:=yfg (ybh.at_ yxl 0 rfl) (by kernel_rfl)
def Nqm1:Fact:=ycan.move [1745,1764,1771] 3219
theorem ydqc:yel zA Nqm1:=yfg (ybh.at_ yxl 1 rfl) (by kernel_rfl)
def Nqm2:Fact:=ycbw.move [1236,1392,1401,3337] 3341
theorem ydsd:yel zA Nqm2:=yfg (ybh.at_ ybli 0 rfl) (by kernel_rfl)
def Nqm3:Fact:=ychf.move [1745,1764,1771,3337] 3836
theorem ydql:yel zA Nqm3:=yfg (ybh.at_ ybjf 0 rfl) (by kernel_rfl)
def ybfy:Fact:=⟨130,[.agg #[.string (by8 [101,108,101,99,116,105,111,110]),.slice (some ⟨1062,0,none⟩) 2 CU,.slice (some ⟨1775,0,none⟩) 4 CU]],2903,[⟨1062,160,6,[.string (by8 [104]),Nqii 1,Nqii 0,Nqii 0,Nqii 1,Nqii 0,.string (by8 [108]),Nqii 2,Nqii 0,Nqii 0,Nqii 0,Nqii 0]⟩,Nqb0,Nqb1,Nqb2,Nqb3,Nqb4,Nqb5,Nqb6,Nqb7,Nqb8,Nqb9,ybxw,ybxj,⟨1775,193,3,[.string (by8 [102,105,120]),.slice (some ⟨1236,0,none⟩) 17 CU,.slice (some ⟨1401,0,none⟩) 1 CU,.string (by8 [100,114,111,112]),.slice (some ⟨1474,0,none⟩) 7 CU,.slice (some ⟨1494,0,none⟩) 1 CU,.string (by8 [116,97,107,101]),.slice (some ⟨1567,0,none⟩) 7 CU,.slice (some ⟨1587,0,none⟩) 1 CU,.string (by8 [116,105,101]),.slice (some ⟨1745,0,none⟩) 17 CU,.slice (some ⟨1771,0,none⟩) 1 CU]⟩],.bool true,4030,[],2903⟩
def yedl:List Fact:=[ybfy]
theorem ybkf:ybh yedl:=ybh.seq (ybh.append (ybh.cons (f:=Nqm0) ydso ybh.nil) (ybh.append (ybh.cons (f:=Nqm1) ydqc ybh.nil) (ybh.append (ybh.cons (f:=Nqm2) ydsd ybh.nil) (ybh.cons (f:=Nqm3) ydql ybh.nil)))) (by kernel_rfl)
end Ev
end
section
namespace Ev
def yelb:List Fact:=[⟨198,[.pointer (some ⟨1022,0,none⟩)],1116,[⟨1021,178,4,yuv⟩,⟨1022,144,0,[.string yw,.slice (some ⟨1021,108,none⟩) 129 CU,.slice (some ⟨1060,0,none⟩) 2 CU,.string (by8 [101,108,101,99,116,105,111,110]),.slice (some ⟨1062,0,none⟩) 2 CU,.slice none 0 0,.slice (some ⟨1069,0,none⟩) 1 CU]⟩,⟨1060,9,1,[.string (by8 [104]),.string (by8 [108])]⟩,⟨1062,160,6,[.string (by8 [104]),Nqii 1,Nqii 0,Nqii 0,Nqii 1,Nqii 0,.string (by8 [108]),Nqii 2,Nqii 0,Nqii 0,Nqii 0,Nqii 0]⟩,⟨1069,9,1,[.string (by8 [102,105,120])]⟩],.slice (some ⟨1216,0,none⟩) 10 CU,1224,[⟨1022,144,0,[.string yw,.slice (some ⟨1021,192,none⟩) 108 CU,.slice (some ⟨1060,0,none⟩) 2 CU,.string (by8 [101,108,101,99,116,105,111,110]),.slice (some ⟨1062,0,none⟩) 2 CU,.slice none 0 0,.slice (some ⟨1069,0,none⟩) 1 CU]⟩,⟨1060,9,1,[.string (by8 [104]),.string (by8 [108])]⟩,⟨1062,160,6,[.string (by8 [104]),Nqii 1,Nqii 0,Nqii 0,Nqii 1,Nqii 0,.string (by8 [108]),Nqii 2,Nqii 0,Nqii 0,Nqii 0,Nqii 0]⟩,⟨1069,9,1,[.string (by8 [102,105,120])]⟩,⟨1216,251,2,(NqiL [43,0,37,0,28,0,12,0,6,0,33,0,28,0,12,0,1,1,6,0])⟩],1022⟩]
theorem ycqb:ybh yelb:=ybh.seq ybh.nil (by kernel_rfl)
def yelv:List Fact:=[⟨198,[.pointer (some ⟨1022,0,none⟩)],1280,[⟨1021,178,4,yuv⟩,⟨1022,144,0,[.string yw,.slice (some ⟨1021,236,none⟩) 97 CU,.slice (some ⟨1060,0,none⟩) 2 CU,.string (by8 [101,108,101,99,116,105,111,110]),.slice (some ⟨1062,0,none⟩) 2 CU,.slice none 0 0,.slice (some ⟨1069,0,none⟩) 1 CU]⟩,⟨1060,9,1,[.string (by8 [104]),.string (by8 [108])]⟩,⟨1062,160,6,[.string (by8 [104]),Nqii 1,Nqii 0,Nqii 0,Nqii 1,Nqii 0,.string (by8 [108]),Nqii 2,Nqii 0,Nqii 0,Nqii 0,Nqii 0]⟩,⟨1069,9,1,[.string (by8 [102,105,120])]⟩],.slice (some ⟨1380,0,none⟩) 10 CU,1388,[⟨1022,144,0,[.string yw,.slice (some ⟨1021,320,none⟩) 76 CU,.slice (some ⟨1060,0,none⟩) 2 CU,.string (by8 [101,108,101,99,116,105,111,110]),.slice (some ⟨1062,0,none⟩) 2 CU,.slice none 0 0,.slice (some ⟨1069,0,none⟩) 1 CU]⟩,⟨1060,9,1,[.string (by8 [104]),.string (by8 [108])]⟩,⟨1062,160,6,[.string (by8 [104]),Nqii 1,Nqii 0,Nqii 0,Nqii 1,Nqii 0,.string (by8 [108]),Nqii 2,Nqii 0,Nqii 0,Nqii 0,Nqii 0]⟩,⟨1069,9,1,[.string (by8 [102,105,120])]⟩,⟨1380,251,2,(NqiL [43,0,37,0,28,0,12,0,6,0,33,0,28,0,12,0,1,1,6,0])⟩],1022⟩]
theorem ycrs:ybh yelv:=ybh.seq ybh.nil (by kernel_rfl)
def yebu:List Fact:=[⟨159,[.pointer (some ⟨1022,0,none⟩)],1408,[⟨1021,178,4,yuv⟩,⟨1022,144,0,[.string yw,.slice (some ⟨1021,332,none⟩) 73 CU,.slice (some ⟨1060,0,none⟩) 2 CU,.string (by8 [101,108,101,99,116,105,111,110]),.slice (some ⟨1062,0,none⟩) 2 CU,.slice (some ⟨1405,0,none⟩) 1 CU,.slice (some ⟨1069,0,none⟩) 1 CU]⟩,⟨1060,9,1,[.string (by8 [104]),.string (by8 [108])]⟩,⟨1062,160,6,[.string (by8 [104]),Nqii 1,Nqii 0,Nqii 0,Nqii 1,Nqii 0,.string (by8 [108]),Nqii 2,Nqii 0,Nqii 0,Nqii 0,Nqii 0]⟩,⟨1069,9,1,[.string (by8 [102,105,120])]⟩,Nqb0,Nqb1,Nqb2,⟨1405,193,3,[.string (by8 [102,105,120]),.slice (some ⟨1236,0,none⟩) 17 CU,.slice (some ⟨1401,0,none⟩) 1 CU]⟩],.tuple #[],1499,[⟨1022,144,0,[.string yw,.slice (some ⟨1021,404,none⟩) 55 CU,.slice (some ⟨1060,0,none⟩) 2 CU,.string (by8 [101,108,101,99,116,105,111,110]),.slice (some ⟨1062,0,none⟩) 2 CU,.slice (some ⟨1498,0,none⟩) 2 CU,.slice (some ⟨1412,0,none⟩) 2 CU]⟩,⟨1060,9,1,[.string (by8 [104]),.string (by8 [108])]⟩,⟨1062,160,6,[.string (by8 [104]),Nqii 1,Nqii 0,Nqii 0,Nqii 1,Nqii 0,.string (by8 [108]),Nqii 2,Nqii 0,Nqii 0,Nqii 0,Nqii 0]⟩,Nqb0,Nqb1,Nqb2,⟨1412,9,1,[.string (by8 [102,105,120]),.string (by8 [100,114,111,112])]⟩,Nqb3,Nqb4,Nqb5,⟨1498,193,3,[.string (by8 [102,105,120]),.slice (some ⟨1236,0,none⟩) 17 CU,.slice (some ⟨1401,0,none⟩) 1 CU,.string (by8 [100,114,111,112]),.slice (some ⟨1474,0,none⟩) 7 CU,.slice (some ⟨1494,0,none⟩) 1 CU]⟩],1022⟩]
theorem yckk:ybh yebu:=ybh.seq ybh.nil (by kernel_rfl)
end Ev
end
section
namespace Ev
def yekb:List Fact:=[Nqnx 152 yw 0 2 [1,0,7,0] 0 5,Nqnx 152 yw 8 8 [1,8,16,0] 0 11,Nqnx 152 yw 16 14 [3,16,17,0] 0 18,Nqnx 152 yw 18 21 [1,18,21,0] 0 24,Nqnx 152 yw 24 33 [3,24,25,0] 0 37,Nqnx 152 yw 26 40 [2,26,27,0] 0 43,Nqnx 152 yw 32 59 [3,32,33,0] 0 63,Nqnx 152 yw 34 66 [1,34,37,0] 0 69,Nqnx 152 yw 40 78 [3,40,41,0] 0 82,Nqnx 152 yw 42 85 [1,42,46,0] 0 88,Nqnx 152 yw 46 91 [3,46,47,0] 0 95,Nqnx 152 yw 48 98 [1,48,52,0] 0 101,Nqnx 152 yw 53 104 [1,53,56,0] 0 107,Nqnx 152 yw 56 110 [3,56,57,0] 0 114,Nqnx 152 yw 60 123 [3,60,62,0] 0 127,Nqnx 152 yw 63 130 [3,63,64,0] 0 134,Nqnx 152 yw 64 137 [1,64,67,0] 0 140,Nqnx 152 yw 68 143 [3,68,69,0] 0 147,Nqnx 152 yw 72 156 [3,72,73,0] 0 160,Nqnx 152 yw 76 169 [3,76,77,0] 0 173]
theorem ycsp:ybh yekb:=ybh.seq ybh.nil (by kernel_rfl)
def yelo:List Fact:=[Nqnx 152 yw 78 176 [3,78,79,0] 0 180,Nqnx 152 yw 79 183 [1,79,85,0] 0 186,Nqnx 152 yw 85 189 [3,85,86,0] 0 193,Nqnx 152 yw 87 202 [3,87,88,0] 0 206,Nqnx 152 yw 89 215 [3,89,90,0] 0 219,Nqnx 152 yw 91 222 [3,91,92,0] 0 226,Nqnx 152 yw 95 235 [3,95,96,0] 0 239,Nqnx 152 yw 97 242 [1,97,103,0] 0 245,Nqnx 152 yw 103 248 [3,103,104,0] 0 252,Nqnx 152 yw 105 261 [3,105,106,0] 0 265,Nqnx 152 yw 107 274 [3,107,108,0] 0 278,Nqnx 152 yw 109 281 [3,109,110,0] 0 285,Nqnx 152 yw 113 294 [3,113,114,0] 0 298,Nqnx 152 yw 116 307 [3,116,117,0] 0 311,Nqnx 152 yw 117 314 [3,117,118,0] 0 318,Nqnx 152 yw 119 321 [3,119,121,0] 0 325,Nqnx 152 yw 124 334 [3,124,126,0] 0 338,Nqnx 152 yw 127 341 [3,127,128,0] 0 345,Nqnx 152 yw 128 348 [1,128,131,0] 0 351,Nqnx 152 yw 132 354 [3,132,133,0] 0 358]
theorem ycqm:ybh yelo:=ybh.seq ybh.nil (by kernel_rfl)
def yela:List Fact:=[Nqnx 152 yw 136 367 [3,136,137,0] 0 371,Nqnx 152 yw 138 374 [2,138,139,0] 0 377,Nqnx 152 yw 140 380 [3,140,141,0] 0 384,Nqnx 152 yw 142 387 [3,142,143,0] 0 391,Nqnx 152 yw 143 394 [1,143,149,0] 0 397,Nqnx 152 yw 149 400 [3,149,150,0] 0 404,Nqnx 152 yw 151 413 [3,151,152,0] 0 417,Nqnx 152 yw 153 426 [3,153,154,0] 0 430,Nqnx 152 yw 155 433 [3,155,156,0] 0 437,Nqnx 152 yw 159 446 [3,159,160,0] 0 450,Nqnx 152 yw 161 453 [1,161,167,0] 0 456,Nqnx 152 yw 167 459 [3,167,168,0] 0 463,Nqnx 152 yw 169 472 [3,169,170,0] 0 476,Nqnx 152 yw 171 485 [3,171,172,0] 0 489,Nqnx 152 yw 173 492 [3,173,174,0] 0 496,Nqnx 152 yw 177 505 [3,177,178,0] 0 509,Nqnx 152 yw 180 518 [3,180,181,0] 0 522,Nqnx 152 yw 181 525 [3,181,182,0] 0 529,Nqnx 152 yw 182 532 [3,182,183,0] 0 536,Nqnx 152 yw 184 539 [1,184,188,0] 0 542]
theorem ycsl:ybh yela:=ybh.seq ybh.nil (by kernel_rfl)
def yeki:List Fact:=[Nqnx 152 yw 189 545 [1,189,193,0] 0 548,Nqnx 152 yw 193 551 [3,193,194,0] 0 555,Nqnx 152 yw 197 564 [3,197,199,0] 0 568,Nqnx 152 yw 200 571 [3,200,201,0] 0 575,Nqnx 152 yw 201 578 [1,201,204,0] 0 581,Nqnx 152 yw 204 584 [3,204,205,0] 0 588,Nqnx 152 yw 206 597 [3,206,207,0] 0 601,Nqnx 152 yw 209 610 [3,209,211,0] 0 614,Nqnx 152 yw 213 623 [3,213,214,0] 0 627,Nqnx 152 yw 220 643 [3,220,222,0] 0 647,Nqnx 152 yw 223 650 [1,223,228,0] 0 653,Nqnx 152 yw 228 656 [3,228,229,0] 0 660,Nqnx 152 yw 230 663 [1,230,234,0] 0 666,Nqnx 152 yw 235 669 [1,235,239,0] 0 672,Nqnx 152 yw 239 675 [3,239,240,0] 0 679,Nqnx 152 yw 241 682 [3,241,242,0] 0 686,Nqnx 152 yw 244 695 [3,244,246,0] 0 699,Nqnx 152 yw 247 702 [1,247,250,0] 0 705,Nqnx 152 yw 250 708 [3,250,251,0] 0 712,Nqnx 152 yw 252 721 [3,252,253,0] 0 725]
theorem ycsz:ybh yeki:=ybh.seq ybh.nil (by kernel_rfl)
def yekq:List Fact:=[Nqnx 152 yw 255 734 [3,255,256,0] 0 738,Nqnx 152 yw 258 747 [3,258,259,0] 0 751,Nqnx 152 yw 265 767 [3,265,267,0] 0 771,Nqnx 152 yw 268 774 [1,268,272,0] 0 777,Nqnx 152 yw 272 780 [3,272,273,0] 0 784,Nqnx 152 yw 274 787 [1,274,278,0] 0 790,Nqnx 152 yw 279 793 [1,279,282,0] 0 796,Nqnx 152 yw 282 799 [3,282,283,0] 0 803,Nqnx 152 yw 286 812 [3,286,287,0] 0 816,Nqnx 152 yw 290 825 [3,290,292,0] 0 829,Nqnx 152 yw 293 832 [1,293,296,0] 0 835,Nqnx 152 yw 296 838 [3,296,297,0] 0 842,Nqnx 152 yw 298 851 [3,298,299,0] 0 855,Nqnx 152 yw 301 864 [3,301,303,0] 0 868,Nqnx 152 yw 305 877 [3,305,306,0] 0 881,Nqnx 152 yw 307 884 [3,307,309,0] 0 888,Nqnx 152 yw 310 891 [1,310,314,0] 0 894,Nqnx 152 yw 314 897 [3,314,315,0] 0 901,Nqnx 152 yw 316 910 [3,316,317,0] 0 914,Nqnx 152 yw 319 923 [3,319,321,0] 0 927]
theorem ycsg:ybh yekq:=ybh.seq ybh.nil (by kernel_rfl)
def yekl:List Fact:=[Nqnx 152 yw 324 936 [3,324,326,0] 0 940,Nqnx 152 yw 328 949 [3,328,329,0] 0 953,Nqnx 152 yw 331 962 [3,331,333,0] 0 966,Nqnx 152 yw 335 975 [3,335,336,0] 0 979,Nqnx 152 yw 342 995 [3,342,344,0] 0 999,Nqnx 152 yw 345 1002 [3,345,346,0] 0 1006,Nqnx 152 yw 347 1015 [3,347,348,0] 0 1019]
theorem ycou:ybh yekl:=ybh.seq ybh.nil (by kernel_rfl)
end Ev
end
section
namespace Ev
def yejx:List Fact:=[⟨117,[.string yw],2,[],.tuple #[.slice (some ⟨1021,0,none⟩) 156 CU,Nqii 0,Nqii 0],1022,[⟨1021,178,4,yuv⟩],2⟩]
theorem ycqr:ybh yejx:=ybh.one (ydb.cons (n:=169) ycsp (ydb.cons (n:=354) ycqm (ydb.cons (n:=539) ycsl (ydb.cons (n:=721) ycsz (ydb.cons (n:=923) ycsg (ydb.cons (n:=1015) ycou ydb.nil)))))) (by kernel_rfl)
def yelt:List Fact:=[⟨198,[.pointer (some ⟨1022,0,none⟩)],1072,[⟨1021,178,4,yuv⟩,⟨1022,144,0,[.string yw,.slice (some ⟨1021,72,none⟩) 138 CU,.slice (some ⟨1060,0,none⟩) 2 CU,.string (by8 [101,108,101,99,116,105,111,110]),.slice (some ⟨1062,0,none⟩) 2 CU,.slice none 0 0,.slice (some ⟨1069,0,none⟩) 1 CU]⟩,⟨1060,9,1,[.string (by8 [104]),.string (by8 [108])]⟩,⟨1062,160,6,[.string (by8 [104]),Nqii 1,Nqii 0,Nqii 0,Nqii 1,Nqii 0,.string (by8 [108]),Nqii 2,Nqii 0,Nqii 0,Nqii 0,Nqii 0]⟩,⟨1069,9,1,[.string (by8 [102,105,120])]⟩],.slice (some ⟨1236,0,none⟩) 17 CU,1239,[⟨1022,144,0,[.string yw,.slice (some ⟨1021,196,none⟩) 107 CU,.slice (some ⟨1060,0,none⟩) 2 CU,.string (by8 [101,108,101,99,116,105,111,110]),.slice (some ⟨1062,0,none⟩) 2 CU,.slice none 0 0,.slice (some ⟨1069,0,none⟩) 1 CU]⟩,⟨1060,9,1,[.string (by8 [104]),.string (by8 [108])]⟩,⟨1062,160,6,[.string (by8 [104]),Nqii 1,Nqii 0,Nqii 0,Nqii 1,Nqii 0,.string (by8 [108]),Nqii 2,Nqii 0,Nqii 0,Nqii 0,Nqii 0]⟩,⟨1069,9,1,[.string (by8 [102,105,120])]⟩,Nqb0],1022⟩]
theorem ycrm:ybh yelt:=ybh.seq ycqb (by kernel_rfl)
def yeer:List Fact:=[⟨159,[.pointer (some ⟨1022,0,none⟩)],1594,[⟨1021,178,4,yuv⟩,⟨1022,144,0,[.string yw,.slice (some ⟨1021,484,none⟩) 35 CU,.slice (some ⟨1060,0,none⟩) 2 CU,.string (by8 [101,108,101,99,116,105,111,110]),.slice (some ⟨1062,0,none⟩) 2 CU,.slice (some ⟨1591,0,none⟩) 3 CU,.slice (some ⟨1505,0,none⟩) 3 CU]⟩,⟨1060,9,1,[.string (by8 [104]),.string (by8 [108])]⟩,⟨1062,160,6,[.string (by8 [104]),Nqii 1,Nqii 0,Nqii 0,Nqii 1,Nqii 0,.string (by8 [108]),Nqii 2,Nqii 0,Nqii 0,Nqii 0,Nqii 0]⟩,Nqb0,Nqb1,Nqb2,Nqb3,Nqb4,Nqb5,⟨1505,9,1,[.string (by8 [102,105,120]),.string (by8 [100,114,111,112]),.string (by8 [116,97,107,101])]⟩,Nqb6,Nqb7,Nqb8,⟨1591,193,3,[.string (by8 [102,105,120]),.slice (some ⟨1236,0,none⟩) 17 CU,.slice (some ⟨1401,0,none⟩) 1 CU,.string (by8 [100,114,111,112]),.slice (some ⟨1474,0,none⟩) 7 CU,.slice (some ⟨1494,0,none⟩) 1 CU,.string (by8 [116,97,107,101]),.slice (some ⟨1567,0,none⟩) 7 CU,.slice (some ⟨1587,0,none⟩) 1 CU]⟩],.tuple #[],1776,[⟨1022,144,0,[.string yw,.slice (some ⟨1021,624,none⟩) 0 CU,.slice (some ⟨1060,0,none⟩) 2 CU,.string (by8 [101,108,101,99,116,105,111,110]),.slice (some ⟨1062,0,none⟩) 2 CU,.slice (some ⟨1775,0,none⟩) 4 CU,.slice (some ⟨1598,0,none⟩) 4 CU]⟩,⟨1060,9,1,[.string (by8 [104]),.string (by8 [108])]⟩,⟨1062,160,6,[.string (by8 [104]),Nqii 1,Nqii 0,Nqii 0,Nqii 1,Nqii 0,.string (by8 [108]),Nqii 2,Nqii 0,Nqii 0,Nqii 0,Nqii 0]⟩,Nqb0,Nqb1,Nqb2,Nqb3,Nqb4,Nqb5,Nqb6,Nqb7,Nqb8,⟨1598,9,1,[.string (by8 [102,105,120]),.string (by8 [100,114,111,112]),.string (by8 [116,97,107,101]),.string (by8 [116,105,101])]⟩,Nqb9,ybxw,ybxj,⟨1775,193,3,[.string (by8 [102,105,120]),.slice (some ⟨1236,0,none⟩) 17 CU,.slice (some ⟨1401,0,none⟩) 1 CU,.string (by8 [100,114,111,112]),.slice (some ⟨1474,0,none⟩) 7 CU,.slice (some ⟨1494,0,none⟩) 1 CU,.string (by8 [116,97,107,101]),.slice (some ⟨1567,0,none⟩) 7 CU,.slice (some ⟨1587,0,none⟩) 1 CU,.string (by8 [116,105,101]),.slice (some ⟨1745,0,none⟩) 17 CU,.slice (some ⟨1771,0,none⟩) 1 CU]⟩],1022⟩]
theorem ybzd:ybh yeer:=ybh.seq ycmv (by kernel_rfl)
end Ev
end
section
namespace Ev
def ypo:Fact:=⟨11,[.string yw],0,[],.agg #[.string (by8 [101,108,101,99,116,105,111,110]),.slice (some ⟨1062,0,none⟩) 2 CU,.slice (some ⟨1775,0,none⟩) 4 CU],2903,[⟨1062,160,6,[.string (by8 [104]),Nqii 1,Nqii 0,Nqii 0,Nqii 1,Nqii 0,.string (by8 [108]),Nqii 2,Nqii 0,Nqii 0,Nqii 0,Nqii 0]⟩,Nqb0,Nqb1,Nqb2,Nqb3,Nqb4,Nqb5,Nqb6,Nqb7,Nqb8,Nqb9,ybxw,ybxj,⟨1775,193,3,[.string (by8 [102,105,120]),.slice (some ⟨1236,0,none⟩) 17 CU,.slice (some ⟨1401,0,none⟩) 1 CU,.string (by8 [100,114,111,112]),.slice (some ⟨1474,0,none⟩) 7 CU,.slice (some ⟨1494,0,none⟩) 1 CU,.string (by8 [116,97,107,101]),.slice (some ⟨1567,0,none⟩) 7 CU,.slice (some ⟨1587,0,none⟩) 1 CU,.string (by8 [116,105,101]),.slice (some ⟨1745,0,none⟩) 17 CU,.slice (some ⟨1771,0,none⟩) 1 CU]⟩],0⟩
def yeez:List Fact:=[ypo]
theorem ybif:ybh yeez:=ybh.seq (ybh.append ycqr (ybh.append ycrm (ybh.append ycrs (ybh.append yckk (ybh.append ycgr (ybh.append ybzd ycfb)))))) (by kernel_rfl)
end Ev
end
section
namespace Ev
end Ev
end
end Go.Proofs.YthclbjjgfcgbgaaGreatDoor
