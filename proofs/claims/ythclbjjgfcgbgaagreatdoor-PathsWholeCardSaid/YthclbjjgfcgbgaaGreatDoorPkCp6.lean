/- Joined. -/
import Derived.Test.YthclbjjgfcgbgaaGreatDoorPkCp4
import Derived.Lib.Bytealg
set_option linter.unusedSimpArgs false
set_option linter.unusedVariables false
set_option maxRecDepth 1000000
open Go.Proofs.Tryz renaming prog->zA,func118->zU
open Bool renaming and_eq_true->zB,cond_eq_ite->zH,false_eq_true->zK
open Nat renaming le_of_ble_eq_true->zC,lt_of_lt_of_le->zF,lt_succ_self->zI,le_refl->zJ,eq_of_beq_eq_true->zN,ble_eq_true_of_le->zO,blt->zQ,ble->zW,add->zX,sub->zY,beq->zZ
open Go.Lib renaming indexByte->zD,hid->zV
open List renaming mem_of_getElem?->zG,getElem?_map->zL,length_map->zM,all_cons->zS
open Classical renaming byContradiction->zT
open Go
namespace Go.Proofs.YthclbjjgfcgbgaaGreatDoor
section
namespace Ev
open Go Go.RowKit
theorem yqy(c:UInt8):∀(l:List UInt8) (k:Nat),(match yqg c l k with|some i=>Int.ofNat i|none=>-1)=(if zD l c == -1 then -1 else zD l c+(k:Int))
 |[],k=>by simp[yqg,zD]
 | x :: l,k=>by
   unfold yqg zD
   by_cases b:x=c
   .subst b;simp
   .have e:zZ x.toNat c.toNat=false:=by
     rw[Bool.eq_false_iff];intro h;exact b (UInt8.toNat_inj.1 (zN h))
    have f:(x==c)=false:=by simpa using b
    rw[e,f];have g:=yqy c l (k+1);simp only[zH,zK,if_false];rw[g];have:=Lib.indexByte_ge l c
    by_cases d:zD l c = -1
    .simp[d]
    .have a:(zD l c == -1)=false:=by simpa using d
     rw[a];simp only[zK,if_false];rw[if_neg (by simp;omega)]
     push_cast;omega
theorem ytv(args:List Value)(m:Mem)(out:Out)(h:yld m args=some out):ybx zA (.call 245 args m) out:=by
 unfold yld at h;split at h
 .rename_i s c
  have d:=yqy c.toUInt8 s.data.toList 0
  have f:∀n:Int,n=zD s.data.toList c.toUInt8->ybx zA (.call 245 [.string s,.int .u8 (.ofNat c)] m) (.call (.int .i64 n) (ygj m)):=by
   intro n v z;refine⟨⟨zJ _,fun i b g=>.inl ⟨b,g⟩,fun i b _ _ g=>g,z⟩,fun l M w a u x y _=>.inr ⟨.int .i64 n,w,?_,?_⟩⟩
   .have e:a=[.string s,.int .u8 (.ofNat c)]:=by
     cases y with
     | cons p q =>
       cases q with
       | cons r t =>
         cases t
         rw[p.eq_simple rfl,r.eq_simple rfl]
    subst e;rw[run_callFunc_extern Tryz.func245 (by kernel_rfl) (by kernel_rfl) (by kernel_rfl) (by kernel_rfl),Lib.run_indexByteString,v]
    rfl
   .exact⟨_,rfl,l,M,⟨l.le_refl,fun _ _=>rfl,u,x,fun _ _ _=>rfl,WG.refl _ _ _⟩,.simple rfl⟩
  have o:(if zD s.data.toList c.toUInt8 == -1 then -1 else zD s.data.toList c.toUInt8+((0:Nat):Int))=zD s.data.toList c.toUInt8:=by
   by_cases k:zD s.data.toList c.toUInt8 = -1
   .simp[k]
   .simp[k]
  rw[o]at d;split at h
  .rename_i i j
   rw[j]at d;simp only[ybr]at h;cases h
   exact f _ d
  .rename_i j
   rw[j]at d;cases h
   exact f _ d
 .cases h
end Ev
end
section
open Go.RowKit
theorem ybej(w:World):Calls zA 154 #[.nilIface] w fun e a=>e = .returned (.tuple #[.agg #[.int .i64 0,.int .i64 0],.bool false])/\Below w.heap.size w a:=by
 go_enter Tryz.func154,Tryz.ntmps154
 go_wp2
 refine⟨rfl,.tuple #[.agg #[.int .i64 0,.int .i64 0],.bool false],?_,rfl,?_⟩
 .simp[results,Tryz.results154,go_sem]
 .exact(Below.refl _ _).alloc (zJ _) _
theorem catch_idle(p q:Addr)(w:World) :
 CallsD zA 153 #[.pointer (some p),.pointer (some q)] .returning w fun e d f=>e = .returned (.tuple #[])/\d = .returning/\Below w.heap.size w f:=by
 refine callsD_of_wpS Tryz.func153 rfl fun a g c=>?_;apply wpS_seq;apply wpS_region;simp[wpOpsS,go_sem,recoverD,c,Tryz.ntmps153,Exit.thenS];refine(ybej w).mono ?_;rintro e h ⟨rfl,b⟩;simp[go_sem];apply wpS_seq;apply wpS_region;simp[wpOpsS,go_sem,Exit.thenS];refine wpS_cond (t:=false) (by simp[Act.eval,Array.replicate]) ?_
 simp only[zK,if_false];refine wpS_of_wp (wp_skip ?_);refine⟨rfl,.returning,by cases a;simp_all,.tuple #[],by simp[results,Tryz.results153],rfl,rfl,b.alloc b.size _⟩
def ygi(w:World):World:=(w.alloc (.cells #[.int .i64 0] 3)).alloc (.cells #[.int .i64 0] 42)
theorem ycnd(w:World):(ygi w).heap[w.heap.size]?=some (.cells #[.int .i64 0] 3):=by
 unfold ygi;rw[Below.heap_alloc _ _ _ (by simp[go_sem])]
 exact heap_alloc_new w _
theorem ycoj(w:World):(ygi w).heap[w.heap.size+1]?=some (.cells #[.int .i64 0] 42):=by
 have:=heap_alloc_new (w.alloc (.cells #[.int .i64 0] 3)) (.cells #[.int .i64 0] 42);rw[show(w.alloc (.cells #[.int .i64 0] 3)).heap.size=w.heap.size+1 by simp[go_sem]]at this
 exact this
theorem yblf (h:FuncId) (first cap:Array Value) (w:World) (Q:World->Prop)
 (t:∀a,Q a->a.heap[w.heap.size]?=(ygi w).heap[w.heap.size]?/\a.heap[w.heap.size+1]?=(ygi w).heap[w.heap.size+1]?)
 (i:((callFunc h (first++cap)).run zA (ygi w) = .ok (.enter h (first++cap)) (ygi w)/\Calls zA h (first++cap) (ygi w) fun e a=>(∃v,e = .returned v)/\Q a) \/
   (∃v a,(callFunc h (first++cap)).run zA (ygi w) = .ok (.value v) a/\Q a)) :
 Calls zA 118 #[.func (.func h) first cap] w fun e c=>e = .returned (.tuple #[.int .i64 0,.int .i64 0]) /\
  ∃a,Q a/\Below a.heap.size ((a.setCell ⟨w.heap.size,0,none⟩ (.int .i64 0)).setCell ⟨w.heap.size+1,0,none⟩ (.int .i64 0)) c:=by
 have n:∀(fn:Fn) (first cap:Array Value) (w:World),(Instr.makeFunc fn first cap).run zA w = .ok (.func fn first cap) w:=fun _ _ _ _=>rfl
 have Hq:=zV t;clear t
 have p:=zV i;clear i
 go_enter_defers zU,Tryz.ntmps118
 generalize x:(Code.seq (Code.region 2 _ false) _)=C
 generalize u:(bodyPostD _ _ _)=B
 go_wp2
 subst x u;refine wp_seq (wp_region_list ?_);refine wpList_plain rfl fun K s=>?_;simp[Oper.wp,go_sem];apply s;refine wpList_plain rfl fun q m=>?_;simp[Oper.wp,go_sem]
 have b:∀v a,Q a->q { tmps:=#[.func (.func h) first cap,undef,.pointer (some ⟨w.heap.size,0,none⟩),.pointer (some ⟨w.heap.size+1,0,none⟩),.func (.func 153) #[] #[.pointer (some ⟨w.heap.size,0,none⟩),.pointer (some ⟨w.heap.size+1,0,none⟩)],.func (.func h) first cap,v],defers:=[{ target:=.fn (.func 153) #[.pointer (some ⟨w.heap.size,0,none⟩),.pointer (some ⟨w.heap.size+1,0,none⟩)],args:=#[] }] } a:=by
  intro v a j;apply m;refine wpList_nil ?_;obtain⟨d,g⟩:=Hq.out a j;have d:a.heap[w.heap.size]?=some (.cells #[.int .i64 0] 3):=d.trans (ycnd w);have g:a.heap[w.heap.size+1]?=some (.cells #[.int .i64 0] 42):=g.trans (ycoj w);have c1:a.cell? ⟨w.heap.size,0,none⟩=some (.int .i64 0):=by simp[World.cell?,d]
  have c2:a.cell? ⟨w.heap.size+1,0,none⟩=some (.int .i64 0):=by simp[World.cell?,g]
  have D:a.frozen? ⟨w.heap.size,0,none⟩=false:=by simp[World.frozen?,d]
  have E:a.frozen? ⟨w.heap.size+1,0,none⟩=false:=by simp[World.frozen?,g]
  have y:=(Array.getElem?_eq_some_iff.1 d).1;have z:=(Array.getElem?_eq_some_iff.1 g).1;have HQ:=zV j;clear j
  clear d g
  simp only[Exit.then]
  go_wp2
  refine leaves_cons (f:=153) (args:=#[.pointer (some ⟨w.heap.size,0,none⟩),.pointer (some ⟨w.heap.size+1,0,none⟩)]) (by simp) (by simp[go_sem]) ?_
  refine(catch_idle ⟨w.heap.size,0,none⟩ ⟨w.heap.size+1,0,none⟩ _).mono ?_;rintro e A c ⟨rfl,rfl,l⟩;have o:((a.setCell ⟨w.heap.size,0,none⟩ (.int .i64 0)).setCell ⟨w.heap.size+1,0,none⟩ (.int .i64 0)).heap.size=a.heap.size:=by simp[go_sem]
  rw[o]at l
  have d1:c.cell? ⟨w.heap.size,0,none⟩=some (.int .i64 0):=by
   rw[l.cell y];simp[go_sem,c1]
  have d2:c.cell? ⟨w.heap.size+1,0,none⟩=some (.int .i64 0):=by
   rw[l.cell z];simp[go_sem,c2]
  simp[Leaves,settle,results,Tryz.results118,go_sem,d1,d2];exact⟨a,HQ.out,l⟩
 have k:=RowKit.Hid.out p
 clear p n Hq s
 revert b
 generalize q=K
 intro b;rw[show((w.alloc (Obj.cells #[Value.int IntKind.i64 0] 3)).alloc (Obj.cells #[Value.int IntKind.i64 0] 42))=ygi w from rfl]
 generalize Sem.run zA (callFunc h (first++cap)) (ygi w)=r at k ⊢
 rcases k with⟨rfl,i⟩|⟨v,a,rfl,i⟩
 .rw[Oper.upon_enter];refine i.mono ?_;rintro e a ⟨⟨v,rfl⟩,j⟩;exact b v a j
 .exact b v a i
end
section
namespace Ev
open Go Go.RowKit
theorem yxj(w:World)(k:Nat)(hk:k<w.heap.size):(ygi w).heap[k]?=w.heap[k]?:=by
 unfold ygi;rw[Below.heap_alloc _ _ _ (by simp[go_sem];omega),Below.heap_alloc _ _ _ hk]
theorem yfm(w:World):(ygi w).heap.size=w.heap.size+2:=by simp[ygi,go_sem]
theorem yboq(self:Task->Option Out)(s:yfd zA self)(args:List Value)(m:Mem)(out:Out)(h:ybck self m args=some out):ybx zA (.call 118 args m) out:=by
 unfold ybck at h;split at h
 .rename_i g first y
  obtain⟨o,ho,f⟩:=yc h;cases o with
  |code=>cases f
  | call v m1 =>
    cases f
    have hs:=s _ _ ho;intro hw;obtain⟨C,A⟩:=hs hw;refine⟨C,fun I M w K N D hv r=>.inl ⟨ybw ytd zU rfl _ _,?_⟩⟩;obtain⟨u,rfl,hu⟩:=ygg hv;obtain⟨G,H,rfl,P,Q⟩:=hu.func_inv;have O:Rel I M (ygi w):=N.keep fun k hk=>yxj w k hk
    have d:∀k,w.heap.size<=k->¬Img I M k:=by
     rintro k hk ⟨i,b,l,n,f,L⟩;obtain⟨l',V,Z⟩:=N.blk i b n;rw[f]at V;cases V
     have:=Z.lt;omega
    have j:=A I M (ygi w) (G++H) O D (P.append Q) r;rw[show(G++H).toArray=G.toArray++H.toArray by simp]at j
    refine(yblf g G.toArray H.toArray w (fun p=>∃e,ydox I M (ygi w) m v m1 e p) ?_ ?_).mono ?_
    .rintro p ⟨e,F,rfl,t,J,a,T⟩;exact⟨a.wg.keep _ (by rw[yfm];omega) (d _ (zJ _)),a.wg.keep _ (by rw[yfm];omega) (d _ (by omega))⟩
    .rcases j with⟨n,f⟩|⟨F,p,n,f⟩
     .refine .inl ⟨n,f.mono ?_⟩;intro e p hk;have R:=hk;obtain⟨F,rfl,_⟩:=hk;exact⟨⟨_,rfl⟩,_,R⟩
     .exact .inr ⟨F,p,n,_,f⟩
    .rintro e E ⟨rfl,p,⟨e,F,rfl,t,J,a,T⟩,B⟩;have a2:w.heap.size+2<=p.heap.size:=by rw[<-yfm];exact a.wg.size
     have c:∀k,k<p.heap.size->k≠w.heap.size->k≠w.heap.size+1->E.heap[k]?=p.heap[k]?:=fun k hk n f=>by
      rw[B.block k hk,Below.heap_setCell _ _ _ _ f,Below.heap_setCell _ _ _ _ n]
     have S:∀k,Img t J k->k≠w.heap.size/\k≠w.heap.size+1:=fun k z=>by
      refine⟨?_,?_⟩
      .rintro rfl;exact d _ (zJ _) (a.wg.img _ (by rw[yfm];omega) z)
      .rintro rfl;exact d _ (by omega) (a.wg.img _ (by rw[yfm];omega) z)
     have a0:p.heap.size<=E.heap.size:=by
      have:=B.size
      simpa[go_sem]using this
     refine⟨_,rfl,t,J,⟨a.le,a.out,⟨⟨fun i b n=>?_,a.rel.inj⟩,fun x U=>⟨?_,(a.rel.gl x U).2⟩⟩,a.sub,a.frame,⟨B.os.trans a.wg.os,B.tape.trans a.wg.tape,B.output.trans a.wg.output,by omega,fun k hk z=>?_,fun k hk z=>a.wg.img k (by rw[yfm];omega) z⟩⟩,?_⟩
     .obtain⟨l,f,L⟩:=a.rel.blk i b n;have W:=S l.blk ⟨i,b,l,n,f,rfl⟩;exact⟨l,f,L.keep (c _ L.lt W.1 W.2)⟩
     .obtain⟨e,X,q⟩:=(a.rel.gl x U).1;obtain⟨e0,Y,q0⟩:=(N.gl x U).1;have a1:=(Array.getElem?_eq_some_iff.1 q0).1;exact⟨e,X,(c _ (by omega) (by omega) (by omega)).trans q⟩
     .rw[c k (by omega) (by omega) (by omega),a.wg.keep k (by rw[yfm];omega) z,yxj w k hk]
     .exact .tuple (.cons (.simple rfl) (.cons (.simple rfl) .nil))
 .cases h
end Ev
end
section
namespace Ev
open Go Go.RowKit
def hkC(a:List Chunk):Hooks:=⟨some 118,some 245,some 175,symB,a,none⟩
def hk(a:List Fact):Hooks:=hkC [⟨1000000000000,a⟩]
def ybq(a:List Fact):Prop:=∀f∈a,yhe zA f
def ydm(a:List Chunk):Prop:=∀c∈a,ybq c.l
theorem ydey{a:List Chunk}(h:ydm a):HooksOk zA (hkC a) :=
 ⟨fun g h=>(by cases h;exact yboq),fun g h=>(by cases h;exact ytv),fun g h=>(by cases h;exact ycit),h,fun g h=>(by cases h)⟩
theorem ydm.nil:ydm []:=fun c a=>by cases a
theorem ydm.cons{n:Nat}{l:List Fact}{b:List Chunk}(h:ybq l)(t:ydm b):ydm (⟨n,l⟩::b):=fun c a=>by
 rcases List.mem_cons.1 a with rfl|a
 .exact h
 .exact t c a
theorem yeeo{a:List Fact}(h:ybq a):HooksOk zA (hk a):=ydey (ydm.cons h ydm.nil)
theorem ybq.nil:ybq []:=fun f a=>by cases a
theorem ybq.cons{f:Fact}{l:List Fact}(h:yhe zA f)(t:ybq l):ybq (f::l):=fun x a=>by
 rcases List.mem_cons.1 a with rfl|a
 .exact h
 .exact t x a
theorem ybq.at_{f:Fact}{l:List Fact}(h:ybq l)(i:Nat)(e:l[i]?=some f):yhe zA f:=h f (zG e)
theorem ybq.append{a b:List Fact}(c:ybq a)(d:ybq b):ybq (a++b):=fun f e=>by
 rcases List.mem_append.1 e with h|h
 .exact c f h
 .exact d f h
noncomputable def checkSeq(new:List Fact):List Fact->Bool:=List.rec (fun _=>true) (fun f _ b a=>f.check zA (hk a)&&b (f::a)) new
theorem ybq.seq:∀{new b:List Fact},ybq b->checkSeq new b=true->ybq new
 |[],_,_,_=>ybq.nil
 | f :: l,b,h,c=>by
   have c:(f.check zA (hk b)&&checkSeq l (f::b))=true:=c;rw[zB]at c;have e:yhe zA f:=yti (yuu mix ytd (yeeo h) 3000) c.1
   have d:ybq (f::b):=fun x a=>by
    rcases List.mem_cons.1 a with rfl|a
    .exact e
    .exact h x a
   have g:=ybq.seq d c.2;intro x a;rcases List.mem_cons.1 a with rfl|a
   .exact e
   .exact g x a
theorem ybq.one{f:Fact}{a:List Chunk}(h:ydm a)(b:f.check zA (hkC a)=true):ybq [f] :=
 ybq.cons (yti (yuu mix ytd (ydey h) 3000) b) ybq.nil
def by8(l:List Nat):ByteArray:=⟨(l.map Nat.toUInt8).toArray⟩
end Ev
end
section
namespace Ev
noncomputable section defs
def renA(ρ:Nat->Nat)(a:Addr):Addr:=yhd (ρ a.block) fun b=>⟨b,a.off,a.spot⟩
def ren1(ρ:Nat->Nat):Value->Value
 |.pointer (some a)=>.pointer (some (renA ρ a))
 |.slice (some a) n c=>.slice (some (renA ρ a)) n c
 |v=>v
def ren2(ρ:Nat->Nat):Value->Value
 |.agg a=>.agg (a.toList.map (ren1 ρ)).toArray
 |.func g a c=>.func g (a.toList.map (ren1 ρ)).toArray (c.toList.map (ren1 ρ)).toArray
 |v=>ren1 ρ v
def renV(ρ:Nat->Nat):Value->Value
 |.tuple a=>.tuple (a.toList.map (ren2 ρ)).toArray
 |v=>ren2 ρ v
def yun:Value->Bool
 |.pointer (some a)=>a.spot.isNone
 |.slice (some a) _ _=>a.spot.isNone
 |v=>simple v
def yok:Value->Bool
 |.agg a=>a.toList.all yun
 |.func (.func _) a c=>a.toList.all yun&&c.toList.all yun
 |v=>yun v
def ybzf:Value->Bool
 |.tuple a=>a.toList.all yok
 |v=>yok v
def ybcg:List BlkL->List Nat->Nat->Nat->Nat
 |b::l,t::k,d,i=>bif zZ b.i i then t else ybcg l k d i
 |_,_,d,_=>d
def Fact.rho(f:Fact)(tgt:List Nat)(n0:Nat)(i:Nat):Nat :=
 bif zW f.next0 i&&zQ i f.next1 then zX (zY i f.next0) n0 else ybcg f.pre tgt (zX n0 (zY f.next1 f.next0)) i
def BlkL.ren(ρ:Nat->Nat)(b:BlkL):BlkL:=⟨yhd (ρ b.i) fun i=>i,b.e,b.z,b.l.map (ren2 ρ)⟩
def Fact.move(f:Fact)(tgt:List Nat)(n0:Nat):Fact :=
 ⟨f.g,f.args.map (ren2 (f.rho tgt n0)),n0,f.pre.map (BlkL.ren (f.rho tgt n0)),renV (f.rho tgt n0) f.v,zX n0 (zY f.next1 f.next0),f.post.map (BlkL.ren (f.rho tgt n0)),n0⟩
def Fact.after(f:Fact):Mem:=⟨f.next1,yio f.mem.b f.post,f.next0⟩
def yhw:List Nat->Bool
 |[]=>true
 |x::l=>!(l.elem x)&&yhw l
def Fact.moves(f:Fact)(tgt:List Nat)(n0:Nat):Bool :=
 zW f.next0 f.low&&f.args.all yok&&ybzf f.v&&f.pre.all (fun b=>zQ b.i f.next0&&b.l.all yok)&&f.post.all (fun b=>zQ b.i f.next1&&b.l.all yok) &&
  yhw ((f.move tgt n0).pre.map (·.i))&&(f.move tgt n0).pre.all (fun b=>zQ b.i n0&&yya (f.move tgt n0).mem b)&&(f.move tgt n0).post.all (yya (f.move tgt n0).after)&&zW f.next0 f.next1
end defs
section
variable {φ φ2:Phi}{ρ:Nat->Nat}
theorem ymg(a:Addr):renA ρ a=⟨ρ a.block,a.off,a.spot⟩:=by unfold renA;rw[ybr]
theorem BlkL.yih(b:BlkL):(b.ren ρ).i=ρ b.i:=by show yhd (ρ b.i) (fun i=>i)=_;rw[ybr]
theorem vr1(d:∀b,φ b=φ2 (ρ b)){v v':Value}(e:yun v=true):VR φ v v'↔VR φ2 (ren1 ρ v) v':=by
 unfold yun at e;split at e
 .rename_i a
  obtain⟨b,o,s⟩:=a;have k:s=none:=by simpa using e
  subst k;show VR φ _ _↔VR φ2 (.pointer (some (renA ρ ⟨b,o,none⟩))) v';rw[ymg];constructor
  .intro h;cases h with
   |simple q=>cases q
   |ptr h=>rw[d]at h;exact VR.ptr h
  .intro h;cases h with
   |simple q=>cases q
   |ptr h=>rw[<-d]at h;exact VR.ptr h
 .rename_i a n c
  obtain⟨b,o,s⟩:=a;have k:s=none:=by simpa using e
  subst k;show VR φ _ _↔VR φ2 (.slice (some (renA ρ ⟨b,o,none⟩)) n c) v';rw[ymg];constructor
  .intro h;cases h with
   |simple q=>cases q
   |slice h f g i j=>rw[d]at h;exact VR.slice h f g i j
  .intro h;cases h with
   |simple q=>cases q
   |slice h f g i j=>rw[<-d]at h;exact VR.slice h f g i j
 .rename_i f g
  have l:ren1 ρ v=v:=by
   unfold ren1;split
   .rename_i a;exact absurd rfl (f a)
   .rename_i a n c;exact absurd rfl (g a n c)
   .rfl
  rw[l];constructor
  .intro h;rw[h.eq_simple e];exact VR.simple e
  .intro h;rw[h.eq_simple e];exact VR.simple e
theorem vrl1(a:∀b,φ b=φ2 (ρ b)):∀{l l':List Value},l.all yun=true->(VRL φ l l'↔VRL φ2 (l.map (ren1 ρ)) l')
 | [],l',_=>by
   constructor
   .intro h;cases h;exact VRL.nil
   .intro h;cases h;exact VRL.nil
 | v :: l,l',c=>by
   simp only[zS,zB]at c;constructor
   .intro h;cases h with
    |cons d e=>exact VRL.cons ((vr1 a c.1).1 d) ((vrl1 a c.2).1 e)
   .intro h;cases h with
    |cons d e=>exact VRL.cons ((vr1 a c.1).2 d) ((vrl1 a c.2).2 e)
theorem vr2(d:∀b,φ b=φ2 (ρ b)){v v':Value}(e:yok v=true):VR φ v v'↔VR φ2 (ren2 ρ v) v':=by
 unfold yok at e;split at e
 .rename_i a
  obtain⟨a⟩:=a;show VR φ (.agg a.toArray) _↔VR φ2 (.agg (a.map (ren1 ρ)).toArray) v';constructor
  .intro h;cases h with
   |simple q=>cases q
   |agg h=>exact VR.agg ((vrl1 d e).1 h)
  .intro h;cases h with
   |simple q=>cases q
   |agg h=>exact VR.agg ((vrl1 d e).2 h)
 .rename_i g a c
  obtain⟨a⟩:=a;obtain⟨c⟩:=c;simp only[zB]at e;show VR φ (.func (.func g) a.toArray c.toArray) _↔VR φ2 (.func (.func g) (a.map (ren1 ρ)).toArray (c.map (ren1 ρ)).toArray) v';constructor
  .intro h;cases h with
   |simple q=>cases q
   |func h k=>exact VR.func ((vrl1 d e.1).1 h) ((vrl1 d e.2).1 k)
  .intro h;cases h with
   |simple q=>cases q
   |func h k=>exact VR.func ((vrl1 d e.1).2 h) ((vrl1 d e.2).2 k)
 .rename_i f j
  have i:ren2 ρ v=ren1 ρ v:=by
   unfold ren2;split
   .rename_i a;exact absurd rfl (f a)
   .rename_i g a c
    cases e
   .rfl
  rw[i];exact vr1 d e
theorem vrl2(a:∀b,φ b=φ2 (ρ b)):∀{l l':List Value},l.all yok=true->(VRL φ l l'↔VRL φ2 (l.map (ren2 ρ)) l')
 | [],l',_=>by
   constructor
   .intro h;cases h;exact VRL.nil
   .intro h;cases h;exact VRL.nil
 | v :: l,l',c=>by
   simp only[zS,zB]at c;constructor
   .intro h;cases h with
    |cons d e=>exact VRL.cons ((vr2 a c.1).1 d) ((vrl2 a c.2).1 e)
   .intro h;cases h with
    |cons d e=>exact VRL.cons ((vr2 a c.1).2 d) ((vrl2 a c.2).2 e)
theorem vrV(c:∀b,φ b=φ2 (ρ b)){v v':Value}(d:ybzf v=true)(h:VR φ v v'):VR φ2 (renV ρ v) v':=by
 unfold ybzf at d;split at d
 .rename_i a
  obtain⟨a⟩:=a;show VR φ2 (.tuple (a.map (ren2 ρ)).toArray) v';cases h with
  |simple q=>cases q
  |tuple h=>exact VR.tuple ((vrl2 c d).1 h)
 .rename_i e
  have f:renV ρ v=ren2 ρ v:=by
   unfold renV;split
   .rename_i a;exact absurd rfl (e a)
   .rfl
  rw[f];exact(vr2 c d).1 h
theorem ybat{n:Type}{g:n->Nat}:∀{l:List n},yhw (l.map g)=true->∀a∈l,∀b∈l,g a=g b->a=b
 |[],_,a,i,_,_,_=>by cases i
 | x :: l,h,a,i,b,k,e=>by
   have h:(!(l.map g).elem (g x)&&yhw (l.map g))=true:=h;simp only[zB,Bool.not_eq_true']at h
   have m:∀y∈l,g y≠g x:=fun y o q=>by
    have:(l.map g).elem (g x)=true:=List.elem_eq_true_of_mem (List.mem_map.2 ⟨y,o,q⟩);rw[this]at h;cases h.1
   rcases List.mem_cons.1 i with j|d
   .rcases List.mem_cons.1 k with f|c
    .rw[j,f]
    .exact absurd (by rw[<-e,j]) (m b c)
   .rcases List.mem_cons.1 k with f|c
    .exact absurd (by rw[e,f]) (m a d)
    .exact ybat h.2 a d b c e
theorem ybro:∀(l:List BlkL) (k:List Nat) (d i:Nat),ybcg l k d i=d\/∃b∈l,b.i=i
 |[],_,_,_=>.inl rfl
 |_::_,[],_,_=>.inl rfl
 | b :: l,t::k,d,i=>by
   unfold ybcg;rw[zH];split
   .rename_i h;exact .inr ⟨b,List.mem_cons_self,zN h⟩
   .rcases ybro l k d i with h|⟨c,a,e⟩
    .exact .inl h
    .exact .inr ⟨c,List.mem_cons_of_mem _ a,e⟩
end
theorem yyk{P:Program}{f:Fact}{tgt:List Nat}{n0:Nat}(f3:yhe P f)(hc:f.moves tgt n0=true):yhe P (f.move tgt n0):=by
 obtain⟨m',hs,e1,e2,e3⟩:=f3;unfold Fact.moves at hc;simp only[zB]at hc;obtain⟨⟨⟨⟨⟨⟨⟨⟨c1,c2⟩,c3⟩,c4⟩,c5⟩,c6⟩,c7⟩,c8⟩,c9⟩:=hc;have c1:=zC c1;have c9:=zC c9;obtain⟨ρ,d0⟩:∃ρ,f.rho tgt n0=ρ:=⟨_,rfl⟩;obtain⟨o,d8⟩:∃o,n0+(f.next1-f.next0)=o:=⟨_,rfl⟩
 have f1:f.move tgt n0=⟨f.g,f.args.map (ren2 ρ),n0,f.pre.map (BlkL.ren ρ),renV ρ f.v,o,f.post.map (BlkL.ren ρ),n0⟩:=by
  unfold Fact.move;rw[d0,<-d8];rfl
 rw[f1]at c6 c7 c8 ⊢;simp only at c6 c7 c8
 have K:∀b∈f.pre,b.i<f.next0/\b.l.all yok=true:=fun b a=>by
  have:=List.all_eq_true.1 c4 b a;simp only[zB]at this;exact⟨zF (zI _) (zC this.1),this.2⟩
 have W:∀b∈f.post,b.i<f.next1/\b.l.all yok=true:=fun b a=>by
  have:=List.all_eq_true.1 c5 b a;simp only[zB]at this;exact⟨zF (zI _) (zC this.1),this.2⟩
 have d5:∀b∈f.pre,∀c∈f.pre,ρ b.i=ρ c.i->b=c:=by
  rw[List.map_map]at c6;intro b a c hc he;exact ybat c6 b a c hc (by show(b.ren ρ).i=(c.ren ρ).i;rw[b.yih,c.yih];exact he)
 have b2:∀b∈f.pre,ρ b.i<n0/\yya (Fact.mem ⟨f.g,f.args.map (ren2 ρ),n0,f.pre.map (BlkL.ren ρ),renV ρ f.v,o,f.post.map (BlkL.ren ρ),n0⟩) (b.ren ρ)=true:=fun b a=>by
  have:=List.all_eq_true.1 c7 (b.ren ρ) (List.mem_map.2 ⟨b,a,rfl⟩);simp only[zB]at this;have L:=zF (zI _) (zC this.1);rw[b.yih]at L;exact⟨L,this.2⟩
 have G:∀i,f.next0<=i->i<f.next1->ρ i=i-f.next0+n0:=fun i L h2=>by
  rw[<-d0];unfold Fact.rho;rw[zH,if_pos (by simp only[zB];exact⟨zO L,zO h2⟩)]
  rfl
 have d9:∀i,¬(f.next0<=i/\i<f.next1)->ρ i=o\/ρ i<n0:=fun i F=>by
  have L:ρ i=ybcg f.pre tgt o i:=by
   rw[<-d0,<-d8];unfold Fact.rho;rw[zH,if_neg]
   .rfl
   .simp only[zB];exact fun q=>F ⟨zC q.1,zF (zI _) (zC q.2)⟩
  rcases ybro f.pre tgt o i with h|⟨b,a,rfl⟩
  .exact .inl (L.trans h)
  .exact .inr (b2 b a).1
 have d7:n0<=o:=by omega
 let f2:Fact:=⟨f.g,f.args.map (ren2 ρ),n0,f.pre.map (BlkL.ren ρ),renV ρ f.v,o,f.post.map (BlkL.ren ρ),n0⟩
 have s:∀i x,f.mem.b.get i=some x->∃b∈f.pre,b.i=i/\x=b.blk:=fun i x d=>by
  rcases yke d with h|h
  .exact h
  .cases h
 have b8:∀i x,f2.mem.b.get i=some x->∃b∈f.pre,ρ b.i=i/\x=(b.ren ρ).blk:=fun i x d=>by
  rcases yke d with⟨b',N,L,h2⟩|h
  .obtain⟨b,a,rfl⟩:=List.mem_map.1 N;rw[b.yih]at L;exact⟨b,a,L,h2⟩
  .cases h
 have a8:∀b∈f.post,f.next0<=b.i/\b.i<f.next1/\∃c,m'.b.get b.i=some (.cells c b.l.length b.e b.z)/\∀j v,j<b.l.length->(c.get j=some v↔b.l[j]?=some v):=fun b a=>by
  obtain⟨c,H,_,k2⟩:=yjz (e3 b a).2;exact⟨Nat.le_trans c1 (e3 b a).1,(W b a).1,c,H,k2⟩
 have B:∀i x,(yio f2.mem.b f2.post).get i=some x->(∃b∈f.post,ρ b.i=i/\x=(b.ren ρ).blk)\/f2.mem.b.get i=some x:=fun i x d=>by
  rcases yke d with⟨b',N,L,h2⟩|h
  .obtain⟨b,a,rfl⟩:=List.mem_map.1 N;rw[b.yih]at L;exact .inl ⟨b,a,L,h2⟩
  .exact .inr h
 have a9:∀b∈f.post,n0<=ρ b.i/\ρ b.i<o:=fun b a=>by
  obtain⟨H,k2,_⟩:=a8 b a;rw[G b.i H k2];omega
 have e4:Wf f.mem:=fun i x d=>by
  obtain⟨b,a,rfl,rfl⟩:=s i x d;exact(K b a).1
 refine⟨f2.after,?_,rfl,zJ _,fun b a=>?_⟩
 .intro hw;obtain⟨E,S⟩:=hs e4;refine⟨⟨d7,fun i x d=>?_,fun i x F Q d=>?_,fun i x d=>?_⟩,fun φ2 M2 w b6 hR b5 hv b1=>?_⟩
  .rcases B i x d with⟨b,a,rfl,rfl⟩|h
   .exact .inr (a9 b a)
   .exact .inl ⟨x,h⟩
  .rcases B i x d with⟨b,a,rfl,rfl⟩|h
   .exact absurd (a9 b a) Q
   .exact h
  .show i<o;rcases B i x d with⟨b,a,rfl,rfl⟩|h
   .exact(a9 b a).2
   .exact zF (hw i x h) d7
  .have b1:∀i,n0<=i->i<o->φ2 i=none:=b1
   let φ:Phi:=fun b=>φ2 (ρ b)
   let M:AM:=fun i=>f.mem.b.get i
   have e5:∀b,φ b=φ2 (ρ b):=fun _=>rfl
   have a0:∀b∈f.pre,∃c,M2 (ρ b.i)=some (.cells c b.l.length b.e b.z)/\∀j v,j<b.l.length->(c.get j=some v↔(b.l.map (ren2 ρ))[j]?=some v):=fun b a=>by
    obtain⟨c,H,_,k2⟩:=yjz (b2 b a).2;rw[b.yih]at H;have el:(b.ren ρ).l.length=b.l.length:=zM ..;rw[el]at H k2;exact⟨c,b5 _ _ H,k2⟩
   have a6:∀{l:List Value}{j:Nat}{v:Value},l[j]?=some v->(l.map (ren2 ρ))[j]?=some (ren2 ρ v):=fun h=>by rw[zL,h];rfl
   have d2:Rel φ M w:=by
    refine⟨⟨fun i x d=>?_,fun i j x y li lj Z d hy O D=>?_⟩,fun z hz=>⟨(hR.gl z hz).1,fun⟨i,x,l,X,U,a3⟩=>(hR.gl z hz).2 (by
     obtain⟨b,a,rfl,rfl⟩:=s i x X;obtain⟨c,H,_⟩:=a0 b a;exact⟨_,_,l,H,U,a3⟩)⟩⟩
    .obtain⟨b,a,rfl,rfl⟩:=s i x d;obtain⟨c,H,k2⟩:=a0 b a;obtain⟨l,R,r2,r3,cs,qe,qf,q0,r4,r5,r6⟩:=hR.blk _ _ H;refine⟨l,R,r2,r3,cs,qe,qf,q0,r4,r5,fun j v m Y=>?_⟩;have e0:=ymd Y;obtain⟨v',s1,s2⟩:=r6 j _ m ((k2 j _ m).2 (a6 e0));exact⟨v',s1,(vr2 e5 (List.all_eq_true.1 (K b a).2 v (zG e0))).2 s2⟩
    .obtain⟨b,a,rfl,rfl⟩:=s i x d;obtain⟨c,hc,rfl,rfl⟩:=s j y hy;obtain⟨cb,H,_⟩:=a0 b a;obtain⟨cc,k2,_⟩:=a0 c hc;exact hR.inj _ _ _ _ li lj (fun q=>Z (by rw[d5 b a c hc q])) H k2 O D
   have d3:Sub f.mem M:=fun i x d=>d
   have e6:yhh φ f.mem.next m'.next:=fun i L h2=>by
    rw[e1]at h2;have L:f.next0<=i:=L;show φ2 (ρ i)=none;rw[G i L h2];exact b1 _ (by omega) (by omega)
   refine(S φ M w b6 d2 d3 ((vrl2 e5 c2).2 hv) e6).mono ?_;rintro e w' ⟨v',rfl,I,M',n,f4⟩;have a7:∀i,¬(f.next0<=i/\i<f.next1)->I i=φ i:=fun i F=>n.out i (by rw[e1];exact F)
   have V:∀i,¬(f.next0<=i/\i<f.next1)->(f.mem.b.get i=none\/i<f.next0)->M' i=M i:=fun i F hn =>
    n.frame i (by rw[e1];exact F) (hn.imp id fun q=>by omega)
   let T:Phi:=fun j=>if n0<=j/\j<o then I (j-n0+f.next0)else φ2 j
   let M3:AM:=fun j=>if n0<=j/\j<o then f2.after.b.get j else M2 j
   have t:∀b,I b=T (ρ b):=fun b=>by
    by_cases a:f.next0<=b/\b<f.next1
    .have hr:=G b a.1 a.2;have:n0<=ρ b/\ρ b<o:=by rw[hr];omega
     show I b=if n0<=ρ b/\ρ b<o then I (ρ b-n0+f.next0)else φ2 (ρ b)
     rw[if_pos this,hr];congr 1;omega
    .have:¬(n0<=ρ b/\ρ b<o):=by rcases d9 b a with h|h<;>omega
     show I b=if n0<=ρ b/\ρ b<o then I (ρ b-n0+f.next0)else φ2 (ρ b)
     rw[if_neg this,a7 b a]
   have b4:φ2.le T:=fun j l m=>by
    have:¬(n0<=j/\j<o):=fun q=>by rw[b1 j q.1 q.2]at m;cases m
    show(if n0<=j/\j<o then I (j-n0+f.next0)else φ2 j)=some l
    rw[if_neg this];exact m
   have r:∀j,¬(n0<=j/\j<o)->T j=φ2 j:=fun j m=>if_neg m;have A:∀j,¬(n0<=j/\j<o)->M3 j=M2 j:=fun j m=>if_neg m;have b3:∀j,n0<=j/\j<o->M3 j=f2.after.b.get j:=fun j m=>if_pos m
   have J:∀j x,n0<=j/\j<o->M3 j=some x->∃b∈f.post,ρ b.i=j/\x=(b.ren ρ).blk:=fun j x m d=>by
    rw[b3 j m]at d;rcases B j x d with h|h
    .exact h
    .obtain⟨b,a,rfl,_⟩:=b8 j x h;have:=(b2 b a).1;omega
   have C:∀b∈f.post,∃l c,I b.i=some l/\M' b.i=some (.cells c b.l.length b.e b.z)/\BR T l w' (b.ren ρ).blk/\¬l.blk<w.heap.size:=fun b a=>by
    obtain⟨H,k2,c,k3,k4⟩:=a8 b a;have hM:=n.sub _ _ k3;obtain⟨l,R,r2,r3,cs,qe,qf,q0,r4,r5,r6⟩:=n.rel.blk _ _ hM;have el:(b.ren ρ).l.length=b.l.length:=zM ..;refine⟨l,c,R,hM,⟨r2,by rw[el];exact r3,cs,qe,qf,q0,r4,r5,fun j v m Y=>?_⟩,fun f0=>?_⟩
    .rw[el]at m;have Y:=ymd Y;have a4:(b.l.map (ren2 ρ))[j]?=some v:=Y;rw[zL]at a4;cases hq:b.l[j]? with
     |none=>rw[hq]at a4;cases a4
     | some u =>
       rw[hq]at a4;cases a4
       obtain⟨v',s1,s2⟩:=r6 j u m ((k4 j u m).2 hq);exact⟨v',s1,(vr2 t (List.all_eq_true.1 (W b a).2 u (zG hq))).1 s2⟩
    .obtain⟨i,x,l',X,U,a3⟩:=n.wg.img l.blk f0 ⟨_,_,l,hM,R,rfl⟩;obtain⟨p,hp,rfl,rfl⟩:=s i x X;have c0:=(K p hp).1;have Q:¬(f.next0<=p.i/\p.i<f.next1):=fun q=>by omega
     have b7:=V p.i Q (.inr c0);exact n.rel.inj p.i b.i _ _ l' l (by omega) (b7.trans X) hM ((a7 p.i Q).trans U) R a3
   have b9:∀j x l,¬(n0<=j/\j<o)->M2 j=some x->φ2 j=some l->BR T l w' x:=fun j x l m d hl=>by
    obtain⟨l0,q1,q2⟩:=hR.blk j x d;rw[hl]at q1;cases q1
    by_cases d4:Img φ M l.blk
    .obtain⟨i,y,l',X,U,a3⟩:=d4;obtain⟨p,hp,rfl,rfl⟩:=s i y X;obtain⟨c,H,k2⟩:=a0 p hp
     have e8:j=ρ p.i:=by
      apply zT;intro Z;exact hR.inj _ _ _ _ l l' Z d H hl U a3.symm
     subst e8;rw[H]at d;cases d
     have d1:φ2 (ρ p.i)=some l':=U;rw[hl]at d1;cases d1
     have c0:=(K p hp).1;have Q:¬(f.next0<=p.i/\p.i<f.next1):=fun q=>by omega
     have b7:=(V p.i Q (.inr c0)).trans X;obtain⟨l2,R,r2,r3,cs,qe,qf,q0,r4,r5,r6⟩:=n.rel.blk _ _ b7;rw[a7 p.i Q,U]at R;cases R
     refine⟨r2,r3,cs,qe,qf,q0,r4,r5,fun j v d6 Y=>?_⟩;have Y:=(k2 j v d6).1 Y;rw[zL]at Y;cases hq:p.l[j]? with
     |none=>rw[hq]at Y;cases Y
     | some u =>
       rw[hq]at Y;cases Y
       have f5:p.l.length<1000000:=by
        obtain⟨_,_,e9,_⟩:=yjz (b2 p hp).2;have el:(p.ren ρ).l.length=p.l.length:=zM ..
        rwa [el]at e9
       obtain⟨v',s1,s2⟩:=r6 j u d6 (by rw[ycjt (by omega)];exact hq)
       exact⟨v',s1,(vr2 t (List.all_eq_true.1 (K p hp).2 u (zG hq))).1 s2⟩
    .exact(q2.keep (n.wg.keep _ q2.lt d4)).mono b4
   have a5:∀k,k<w.heap.size->Img T M3 k->Img φ2 M2 k:=fun k hk hq=>by
    obtain⟨i,x,l,X,U,rfl⟩:=hq
    by_cases F:n0<=i/\i<o
    .obtain⟨b,a,rfl,rfl⟩:=J i x F X;obtain⟨l',c,R,_,_,r4⟩:=C b a;rw[<-t,R]at U;cases U
     exact absurd hk r4
    .rw[A i F]at X;rw[r i F]at U;exact⟨i,x,l,X,U,rfl⟩
   refine⟨v',rfl,T,M3,⟨b4,r,⟨⟨fun j x d=>?_,fun i j x y li lj Z d hy O D=>?_⟩,fun z hz=>⟨(n.rel.gl z hz).1,fun q=>(hR.gl z hz).2 (a5 _ (Array.getElem?_eq_some_iff.1 (hR.gl z hz).1.choose_spec.choose_spec).1 q)⟩⟩,fun i x d=>?_,fun i F _=>A i F,⟨n.wg.os,n.wg.tape,n.wg.output,n.wg.size,fun k hk hn=>?_,fun k hk hq=>?_⟩⟩,vrV t c3 f4⟩
   .by_cases m:n0<=j/\j<o
    .obtain⟨b,a,rfl,rfl⟩:=J j x m d;obtain⟨l,c,R,_,r3,_⟩:=C b a;exact⟨l,by rw[<-t];exact R,r3⟩
    .rw[A j m]at d;obtain⟨l,q1,_⟩:=hR.blk j x d;exact⟨l,by rw[r j m];exact q1,b9 j x l m d q1⟩
   .by_cases F:n0<=i/\i<o
    .obtain⟨b,a,rfl,rfl⟩:=J i x F d;obtain⟨l,c,R,r2,_,r4⟩:=C b a;rw[<-t,R]at O;cases O
     by_cases m:n0<=j/\j<o
     .obtain⟨b',N,rfl,rfl⟩:=J j y m hy;obtain⟨l',c',s1,s2,_,_⟩:=C b' N;rw[<-t,s1]at D;cases D
      exact n.rel.inj _ _ _ _ _ _ (fun q=>Z (by rw[q])) r2 s2 R s1
     .rw[A j m]at hy;rw[r j m]at D;obtain⟨l',q1,q2⟩:=hR.blk j y hy;rw[D]at q1;cases q1
      exact fun q=>r4 (by rw[q];exact q2.lt)
    .rw[A i F]at d;rw[r i F]at O
     by_cases m:n0<=j/\j<o
     .obtain⟨b',N,rfl,rfl⟩:=J j y m hy;obtain⟨l',c',s1,s2,_,s4⟩:=C b' N;rw[<-t,s1]at D;cases D
      obtain⟨l0,q1,q2⟩:=hR.blk i x d;rw[O]at q1;cases q1
      exact fun q=>s4 (by rw[<-q];exact q2.lt)
     .rw[A j m]at hy;rw[r j m]at D;exact hR.inj i j x y li lj Z d hy O D
   .show M3 i=some x
    by_cases F:n0<=i/\i<o
    .rw[b3 i F];exact d
    .rw[A i F];rcases B i x d with⟨b,a,rfl,rfl⟩|h
     .exact absurd (a9 b a) F
     .exact b5 i x h
   .refine n.wg.keep k hk fun⟨i,x,l,X,U,a3⟩=>hn ?_;obtain⟨b,a,rfl,rfl⟩:=s i x X;obtain⟨c,H,_⟩:=a0 b a;exact⟨_,_,l,H,U,a3⟩
   .exact a5 k hk hq
 .obtain⟨b0,e7,rfl⟩:=List.mem_map.1 a;refine⟨?_,List.all_eq_true.1 c8 _ a⟩;show n0<=(b0.ren ρ).i;rw[b0.yih];exact(a9 b0 e7).1
end Ev
end
section
namespace Ev
def Pqii(n:Int):Value:=.int .i64 n
def PqiL:List Int->List Value
 |[]=>[]
 |n::l=>.int .i64 n::PqiL l
def PqiA(l:List Int):Array Value:=⟨PqiL l⟩
def Pqnx(g:Nat)(t:ByteArray)(a:Int)(n:Nat)(l:List Int)(e:Int)(m:Nat):Fact:=⟨g,[.string t,.int .i64 a],n,[],.tuple #[.agg (PqiA l),.int .i64 e],m,[],n⟩
def yg:ByteArray:=by8 [112,114,111,103,114,97,109,32,112,97,116,104,115,59,10,118,97,114,32,100,32,58,32,48,32,46,46,32,49,53,32,42,32,110,59,10,118,97,114,32,112,32,58,32,112,111,114,116,59,10,114,117,108,101,32,116,111,112,58,32,114,111,111,116,32,38,38,32,40,100,32,33,61,32,48,32,124,124,32,112,32,33,61,32,110,111,110,101,41,32,45,62,32,100,32,58,61,32,48,44,32,112,32,58,61,32,110,111,110,101,59,10,114,117,108,101,32,108,111,119,58,32,33,114,111,111,116,32,38,38,32,40,100,32,33,61,32,40,109,105,110,40,113,46,100,32,43,32,113,46,119,101,105,103,104,116,41,32,60,32,49,53,32,42,32,110,32,63,32,109,105,110,40,113,46,100,32,43,32,113,46,119,101,105,103,104,116,41,32,58,32,49,53,32,42,32,110,41,32,124,124,32,112,32,33,61,32,102,105,114,115,116,40,113,46,100,32,43,32,113,46,119,101,105,103,104,116,32,61,61,32,109,105,110,40,113,46,100,32,43,32,113,46,119,101,105,103,104,116,41,41,41,10,32,32,45,62,32,100,32,58,61,32,40,109,105,110,40,113,46,100,32,43,32,113,46,119,101,105,103,104,116,41,32,60,32,49,53,32,42,32,110,32,63,32,109,105,110,40,113,46,100,32,43,32,113,46,119,101,105,103,104,116,41,32,58,32,49,53,32,42,32,110,41,44,32,112,32,58,61,32,102,105,114,115,116,40,113,46,100,32,43,32,113,46,119,101,105,103,104,116,32,61,61,32,109,105,110,40,113,46,100,32,43,32,113,46,119,101,105,103,104,116,41,41,59,10]
def ytk:List Value:=(PqiL [1,0,7,0,1,8,13,0,3,13,14,0,1,15,18,0,1,19,20,0,3,21,22,0,2,23,24,0,3,25,27,0,2,28,30,15,3,31,32,0,1,33,34,0,3,34,35,0,1,36,39,0,1,40,41,0,3,42,43,0,1,44,48,0,3,48,49,0,1,50,54,0,1,55,58,0,3,58,59,0,1,60,64,0,3,65,67,0,3,68,69,0,1,69,70,0,3,71,73,0,2,74,75,0,3,76,78,0,1,79,80,0,3,81,83,0,1,84,88,0,3,88,89,0,3,90,92,0,1,93,94,0,3,95,97,0,2,98,99,0,3,99,100,0,1,101,102,0,3,103,105,0,1,106,110,0,3,110,111,0,1,112,116,0,1,117,120,0,3,120,121,0,3,122,123,0,1,123,127,0,3,128,130,0,3,131,132,0,1,132,133,0,3,134,136,0,3,137,138,0,1,138,141,0,3,141,142,0,1,142,143,0,3,143,144,0,1,144,145,0,3,146,147,0,1,148,149,0,3,149,150,0,1,150,156,0,3,156,157,0,3,158,159,0,2,160,162,15,3,163,164,0,1,165,166,0,3,167,168,0,1,169,172,0,3,172,173,0,1,173,174,0,3,174,175,0,1,175,176,0,3,177,178,0,1,179,180,0,3,180,181,0,1,181,187,0,3,187,188,0,3,189,190,0,2,191,193,15,3,194,195,0,1,196,197,0,3,197,198,0,3,199,201,0,1,202,203,0,3,204,206,0,1,207,212,0,3,212,213,0,1,213,214,0,3,214,215,0,1,215,216,0,3,217,218,0,1,219,220,0,3,220,221,0,1,221,227,0,3,228,230,0,1,231,234,0,3,234,235,0,1,235,236,0,3,236,237,0,1,237,238,0,3,239,240,0,1,241,242,0,3,242,243,0,1,243,249,0,3,249,250,0,3,250,251,0,3,251,252,0,3,255,257,0,1,258,259,0,3,260,262,0,3,263,264,0,1,264,267,0,3,267,268,0,1,268,269,0,3,269,270,0,1,270,271,0,3,272,273,0,1,274,275,0,3,275,276,0,1,276,282,0,3,282,283,0,3,284,285,0,2,286,288,15,3,289,290,0,1,291,292,0,3,293,294,0,1,295,298,0,3,298,299,0,1,299,300,0,3,300,301,0,1,301,302,0,3,303,304,0,1,305,306,0,3,306,307,0,1,307,313,0,3,313,314,0,3,315,316,0,2,317,319,15,3,320,321,0,1,322,323,0,3,323,324,0,3,324,325,0,1,326,327,0,3,328,330,0,1,331,336,0,3,336,337,0,1,337,338,0,3,338,339,0,1,339,340,0,3,341,342,0,1,343,344,0,3,344,345,0,1,345,351,0,3,352,354,0,1,355,358,0,3,358,359,0,1,359,360,0,3,360,361,0,1,361,362,0,3,363,364,0,1,365,366,0,3,366,367,0,1,367,373,0,3,373,374,0,3,374,375,0,3,375,376,0])
def ydxs:List Value:=(PqiL [42,0,36,0,5,0,43,0,37,0,24,0,33,0,12,0,16,0,30,0,1,15,6,0,24,0,33,0,12,0,16,0,30,0,1,15,6,0,36,0,5,1,23,0,35,0,33,0,12,0,16,0,24,0,33,0,12,0,16,0])
def ywx:List Value:=(PqiL [41,0,19,0,10,0,42,0,36,0,5,0,43,0,37,0,24,0,33,0,12,0,16,0,30,0,1,15,6,0,24,0,33,0,12,0,16,0,30,0,1,15,6,0,36,0,5,1,23,0,35,0,33,0,12,0,16,0,24,0,33,0,12,0,16,0])
def Pqb0:BlkL:=⟨1197,251,2,(PqiL [41,0,10,0,42,0,36,0,5,0,1,0,36,0,5,1,4,0])⟩
def Pqb1:BlkL:=⟨1209,251,2,(PqiL [1,0])⟩
def Pqb2:BlkL:=⟨1227,251,2,(PqiL [4,0])⟩
def Pqb3:BlkL:=⟨1234,203,2,[Pqii 0,.slice (some ⟨1209,0,none⟩) 1 1,Pqii 1,.slice (some ⟨1227,0,none⟩) 1 1]⟩
def Pqb4:BlkL:=⟨1802,251,2,(PqiL [23,0,35,0,33,0,12,0,16,0,24,0,33,0,12,0,16,0])⟩
def Pqb5:BlkL:=⟨1698,251,2,(PqiL [43,0,37,0,24,0,33,0,12,0,16,0,30,0,1,15,6,0,24,0,33,0,12,0,16,0,30,0,1,15,6,0])⟩
def Pqb6:BlkL:=⟨1809,203,2,[Pqii 0,.slice (some ⟨1698,0,none⟩) 16 CU,Pqii 1,.slice (some ⟨1802,0,none⟩) 9 CU]⟩
end Ev
end
section
namespace Ev
def yeee:List Fact:=[⟨159,[.pointer (some ⟨1074,0,none⟩)],1121,[⟨1073,178,4,ytk⟩,⟨1074,144,0,[.string yg,.slice (some ⟨1073,72,none⟩) 146 CU,.slice (some ⟨1116,0,none⟩) 2 CU,.string (by8 [112,97,116,104,115]),.slice (some ⟨1118,0,none⟩) 2 CU,.slice none 0 0,.slice none 0 0]⟩,⟨1116,9,1,[.string (by8 [100]),.string (by8 [112])]⟩,⟨1118,160,6,[.string (by8 [100]),Pqii 1,Pqii 0,Pqii 0,Pqii 15,Pqii 0,.string (by8 [112]),Pqii 3,Pqii 0,Pqii 0,Pqii 0,Pqii 0]⟩],.tuple #[],1239,[⟨1074,144,0,[.string yg,.slice (some ⟨1073,160,none⟩) 124 CU,.slice (some ⟨1116,0,none⟩) 2 CU,.string (by8 [112,97,116,104,115]),.slice (some ⟨1118,0,none⟩) 2 CU,.slice (some ⟨1238,0,none⟩) 1 CU,.slice (some ⟨1125,0,none⟩) 1 CU]⟩,⟨1116,9,1,[.string (by8 [100]),.string (by8 [112])]⟩,⟨1118,160,6,[.string (by8 [100]),Pqii 1,Pqii 0,Pqii 0,Pqii 15,Pqii 0,.string (by8 [112]),Pqii 3,Pqii 0,Pqii 0,Pqii 0,Pqii 0]⟩,⟨1125,9,1,[.string (by8 [116,111,112])]⟩,Pqb0,Pqb1,Pqb2,Pqb3,⟨1238,193,3,[.string (by8 [116,111,112]),.slice (some ⟨1197,0,none⟩) 9 CU,.slice (some ⟨1234,0,none⟩) 2 CU]⟩],1074⟩]
theorem yclk:ybq yeee:=ybq.seq ybq.nil (by kernel_rfl)
def yefa:List Fact:=[⟨212,[.pointer (some ⟨1074,0,none⟩),Pqii 1],1277,[⟨1073,178,4,ytk⟩,⟨1074,144,0,[.string yg,.slice (some ⟨1073,200,none⟩) 114 CU,.slice (some ⟨1116,0,none⟩) 2 CU,.string (by8 [112,97,116,104,115]),.slice (some ⟨1118,0,none⟩) 2 CU,.slice (some ⟨1238,0,none⟩) 1 CU,.slice (some ⟨1245,0,none⟩) 2 CU]⟩,⟨1116,9,1,[.string (by8 [100]),.string (by8 [112])]⟩,⟨1118,160,6,[.string (by8 [100]),Pqii 1,Pqii 0,Pqii 0,Pqii 15,Pqii 0,.string (by8 [112]),Pqii 3,Pqii 0,Pqii 0,Pqii 0,Pqii 0]⟩,Pqb0,Pqb1,Pqb2,Pqb3,⟨1238,193,3,[.string (by8 [116,111,112]),.slice (some ⟨1197,0,none⟩) 9 CU,.slice (some ⟨1234,0,none⟩) 2 CU]⟩,⟨1245,9,1,[.string (by8 [116,111,112]),.string (by8 [108,111,119])]⟩],.slice (some ⟨1341,0,none⟩) 8 CU,1344,[⟨1074,144,0,[.string yg,.slice (some ⟨1073,256,none⟩) 100 CU,.slice (some ⟨1116,0,none⟩) 2 CU,.string (by8 [112,97,116,104,115]),.slice (some ⟨1118,0,none⟩) 2 CU,.slice (some ⟨1238,0,none⟩) 1 CU,.slice (some ⟨1245,0,none⟩) 2 CU]⟩,⟨1116,9,1,[.string (by8 [100]),.string (by8 [112])]⟩,⟨1118,160,6,[.string (by8 [100]),Pqii 1,Pqii 0,Pqii 0,Pqii 15,Pqii 0,.string (by8 [112]),Pqii 3,Pqii 0,Pqii 0,Pqii 0,Pqii 0]⟩,Pqb0,Pqb1,Pqb2,Pqb3,⟨1238,193,3,[.string (by8 [116,111,112]),.slice (some ⟨1197,0,none⟩) 9 CU,.slice (some ⟨1234,0,none⟩) 2 CU]⟩,⟨1245,9,1,[.string (by8 [116,111,112]),.string (by8 [108,111,119])]⟩,⟨1341,251,2,(PqiL [37,0,24,0,33,0,12,0,16,0,30,0,1,15,6,0])⟩],1074⟩]
theorem ycnc:ybq yefa:=ybq.seq ybq.nil (by kernel_rfl)
def yeex:List Fact:=[⟨212,[.pointer (some ⟨1074,0,none⟩),Pqii 2],1429,[⟨1073,178,4,ytk⟩,⟨1074,144,0,[.string yg,.slice (some ⟨1073,324,none⟩) 83 CU,.slice (some ⟨1116,0,none⟩) 2 CU,.string (by8 [112,97,116,104,115]),.slice (some ⟨1118,0,none⟩) 2 CU,.slice (some ⟨1238,0,none⟩) 1 CU,.slice (some ⟨1245,0,none⟩) 2 CU]⟩,⟨1116,9,1,[.string (by8 [100]),.string (by8 [112])]⟩,⟨1118,160,6,[.string (by8 [100]),Pqii 1,Pqii 0,Pqii 0,Pqii 15,Pqii 0,.string (by8 [112]),Pqii 3,Pqii 0,Pqii 0,Pqii 0,Pqii 0]⟩,Pqb0,Pqb1,Pqb2,Pqb3,⟨1238,193,3,[.string (by8 [116,111,112]),.slice (some ⟨1197,0,none⟩) 9 CU,.slice (some ⟨1234,0,none⟩) 2 CU]⟩,⟨1245,9,1,[.string (by8 [116,111,112]),.string (by8 [108,111,119])]⟩],.slice (some ⟨1532,0,none⟩) 11 CU,1534,[⟨1074,144,0,[.string yg,.slice (some ⟨1073,416,none⟩) 60 CU,.slice (some ⟨1116,0,none⟩) 2 CU,.string (by8 [112,97,116,104,115]),.slice (some ⟨1118,0,none⟩) 2 CU,.slice (some ⟨1238,0,none⟩) 1 CU,.slice (some ⟨1245,0,none⟩) 2 CU]⟩,⟨1116,9,1,[.string (by8 [100]),.string (by8 [112])]⟩,⟨1118,160,6,[.string (by8 [100]),Pqii 1,Pqii 0,Pqii 0,Pqii 15,Pqii 0,.string (by8 [112]),Pqii 3,Pqii 0,Pqii 0,Pqii 0,Pqii 0]⟩,Pqb0,Pqb1,Pqb2,Pqb3,⟨1238,193,3,[.string (by8 [116,111,112]),.slice (some ⟨1197,0,none⟩) 9 CU,.slice (some ⟨1234,0,none⟩) 2 CU]⟩,⟨1245,9,1,[.string (by8 [116,111,112]),.string (by8 [108,111,119])]⟩,⟨1532,251,2,(PqiL [36,0,5,1,23,0,35,0,33,0,12,0,16,0,24,0,33,0,12,0,16,0])⟩],1074⟩]
theorem ycqq:ybq yeex:=ybq.seq ybq.nil (by kernel_rfl)
def ydyk:List Fact:=[⟨212,[.pointer (some ⟨1074,0,none⟩),Pqii 1],1559,[⟨1073,178,4,ytk⟩,⟨1074,144,0,[.string yg,.slice (some ⟨1073,436,none⟩) 55 CU,.slice (some ⟨1116,0,none⟩) 2 CU,.string (by8 [112,97,116,104,115]),.slice (some ⟨1118,0,none⟩) 2 CU,.slice (some ⟨1238,0,none⟩) 1 CU,.slice (some ⟨1245,0,none⟩) 2 CU]⟩,⟨1116,9,1,[.string (by8 [100]),.string (by8 [112])]⟩,⟨1118,160,6,[.string (by8 [100]),Pqii 1,Pqii 0,Pqii 0,Pqii 15,Pqii 0,.string (by8 [112]),Pqii 3,Pqii 0,Pqii 0,Pqii 0,Pqii 0]⟩,Pqb0,Pqb1,Pqb2,Pqb3,⟨1238,193,3,[.string (by8 [116,111,112]),.slice (some ⟨1197,0,none⟩) 9 CU,.slice (some ⟨1234,0,none⟩) 2 CU]⟩,⟨1245,9,1,[.string (by8 [116,111,112]),.string (by8 [108,111,119])]⟩],.slice (some ⟨1623,0,none⟩) 8 CU,1626,[⟨1074,144,0,[.string yg,.slice (some ⟨1073,492,none⟩) 41 CU,.slice (some ⟨1116,0,none⟩) 2 CU,.string (by8 [112,97,116,104,115]),.slice (some ⟨1118,0,none⟩) 2 CU,.slice (some ⟨1238,0,none⟩) 1 CU,.slice (some ⟨1245,0,none⟩) 2 CU]⟩,⟨1116,9,1,[.string (by8 [100]),.string (by8 [112])]⟩,⟨1118,160,6,[.string (by8 [100]),Pqii 1,Pqii 0,Pqii 0,Pqii 15,Pqii 0,.string (by8 [112]),Pqii 3,Pqii 0,Pqii 0,Pqii 0,Pqii 0]⟩,Pqb0,Pqb1,Pqb2,Pqb3,⟨1238,193,3,[.string (by8 [116,111,112]),.slice (some ⟨1197,0,none⟩) 9 CU,.slice (some ⟨1234,0,none⟩) 2 CU]⟩,⟨1245,9,1,[.string (by8 [116,111,112]),.string (by8 [108,111,119])]⟩,⟨1623,251,2,(PqiL [37,0,24,0,33,0,12,0,16,0,30,0,1,15,6,0])⟩],1074⟩]
theorem ybxf:ybq ydyk:=ybq.seq ybq.nil (by kernel_rfl)
end Ev
end
section
namespace Ev
def yebb:List Fact:=[⟨198,[.pointer (some ⟨1074,0,none⟩)],1715,[⟨1073,178,4,ytk⟩,⟨1074,144,0,[.string yg,.slice (some ⟨1073,568,none⟩) 22 CU,.slice (some ⟨1116,0,none⟩) 2 CU,.string (by8 [112,97,116,104,115]),.slice (some ⟨1118,0,none⟩) 2 CU,.slice (some ⟨1238,0,none⟩) 1 CU,.slice (some ⟨1245,0,none⟩) 2 CU]⟩,⟨1116,9,1,[.string (by8 [100]),.string (by8 [112])]⟩,⟨1118,160,6,[.string (by8 [100]),Pqii 1,Pqii 0,Pqii 0,Pqii 15,Pqii 0,.string (by8 [112]),Pqii 3,Pqii 0,Pqii 0,Pqii 0,Pqii 0]⟩,Pqb0,Pqb1,Pqb2,Pqb3,⟨1238,193,3,[.string (by8 [116,111,112]),.slice (some ⟨1197,0,none⟩) 9 CU,.slice (some ⟨1234,0,none⟩) 2 CU]⟩,⟨1245,9,1,[.string (by8 [116,111,112]),.string (by8 [108,111,119])]⟩],.slice (some ⟨1802,0,none⟩) 9 CU,1808,[⟨1074,144,0,[.string yg,.slice (some ⟨1073,652,none⟩) 1 CU,.slice (some ⟨1116,0,none⟩) 2 CU,.string (by8 [112,97,116,104,115]),.slice (some ⟨1118,0,none⟩) 2 CU,.slice (some ⟨1238,0,none⟩) 1 CU,.slice (some ⟨1245,0,none⟩) 2 CU]⟩,⟨1116,9,1,[.string (by8 [100]),.string (by8 [112])]⟩,⟨1118,160,6,[.string (by8 [100]),Pqii 1,Pqii 0,Pqii 0,Pqii 15,Pqii 0,.string (by8 [112]),Pqii 3,Pqii 0,Pqii 0,Pqii 0,Pqii 0]⟩,Pqb0,Pqb1,Pqb2,Pqb3,⟨1238,193,3,[.string (by8 [116,111,112]),.slice (some ⟨1197,0,none⟩) 9 CU,.slice (some ⟨1234,0,none⟩) 2 CU]⟩,⟨1245,9,1,[.string (by8 [116,111,112]),.string (by8 [108,111,119])]⟩,Pqb4],1074⟩]
theorem ycbw:ybq yebb:=ybq.seq ybq.nil (by kernel_rfl)
def yeav:List Fact:=[⟨202,[.slice (some ⟨1547,0,none⟩) 33 CU,Pqii 2],1899,[⟨1547,251,2,ywx⟩],.bool true,2097,[],1899⟩]
theorem ycgu:ybq yeav:=ybq.seq ybq.nil (by kernel_rfl)
def ydqi:List Fact:=[⟨203,[.slice (some ⟨1547,0,none⟩) 33 CU,.slice (some ⟨2251,0,none⟩) 2 2,.bool false],2373,[⟨1547,251,2,ywx⟩,⟨2251,3,1,(PqiL [1,3])⟩],.tuple (PqiA [2,0]),2704,[],2373⟩]
theorem ycdv:ybq ydqi:=ybq.seq ybq.nil (by kernel_rfl)
end Ev
end
section
namespace Ev
def yefq:List Fact:=[Pqnx 152 yg 0 2 [1,0,7,0] 0 5,Pqnx 152 yg 8 8 [1,8,13,0] 0 11,Pqnx 152 yg 13 14 [3,13,14,0] 0 18,Pqnx 152 yg 15 21 [1,15,18,0] 0 24,Pqnx 152 yg 21 33 [3,21,22,0] 0 37,Pqnx 152 yg 28 53 [2,28,30,15] 0 56,Pqnx 152 yg 31 59 [3,31,32,0] 0 63,Pqnx 152 yg 34 72 [3,34,35,0] 0 76,Pqnx 152 yg 36 79 [1,36,39,0] 0 82,Pqnx 152 yg 42 91 [3,42,43,0] 0 95,Pqnx 152 yg 44 98 [1,44,48,0] 0 101,Pqnx 152 yg 48 104 [3,48,49,0] 0 108,Pqnx 152 yg 50 111 [1,50,54,0] 0 114,Pqnx 152 yg 55 117 [1,55,58,0] 0 120,Pqnx 152 yg 58 123 [3,58,59,0] 0 127,Pqnx 152 yg 60 130 [1,60,64,0] 0 133,Pqnx 152 yg 65 136 [3,65,67,0] 0 140,Pqnx 152 yg 68 143 [3,68,69,0] 0 147,Pqnx 152 yg 71 156 [3,71,73,0] 0 160,Pqnx 152 yg 76 169 [3,76,78,0] 0 173]
theorem ycpd:ybq yefq:=ybq.seq ybq.nil (by kernel_rfl)
def yedu:List Fact:=[Pqnx 152 yg 81 182 [3,81,83,0] 0 186,Pqnx 152 yg 84 189 [1,84,88,0] 0 192,Pqnx 152 yg 88 195 [3,88,89,0] 0 199,Pqnx 152 yg 95 215 [3,95,97,0] 0 219,Pqnx 152 yg 99 228 [3,99,100,0] 0 232,Pqnx 152 yg 103 241 [3,103,105,0] 0 245,Pqnx 152 yg 106 248 [1,106,110,0] 0 251,Pqnx 152 yg 110 254 [3,110,111,0] 0 258,Pqnx 152 yg 112 261 [1,112,116,0] 0 264,Pqnx 152 yg 117 267 [1,117,120,0] 0 270,Pqnx 152 yg 120 273 [3,120,121,0] 0 277,Pqnx 152 yg 122 280 [3,122,123,0] 0 284,Pqnx 152 yg 123 287 [1,123,127,0] 0 290,Pqnx 152 yg 128 293 [3,128,130,0] 0 297,Pqnx 152 yg 131 300 [3,131,132,0] 0 304,Pqnx 152 yg 134 313 [3,134,136,0] 0 317,Pqnx 152 yg 137 320 [3,137,138,0] 0 324,Pqnx 152 yg 138 327 [1,138,141,0] 0 330,Pqnx 152 yg 141 333 [3,141,142,0] 0 337,Pqnx 152 yg 143 346 [3,143,144,0] 0 350]
theorem ycpg:ybq yedu:=ybq.seq ybq.nil (by kernel_rfl)
def yedk:List Fact:=[Pqnx 152 yg 146 359 [3,146,147,0] 0 363,Pqnx 152 yg 149 372 [3,149,150,0] 0 376,Pqnx 152 yg 150 379 [1,150,156,0] 0 382,Pqnx 152 yg 156 385 [3,156,157,0] 0 389,Pqnx 152 yg 158 392 [3,158,159,0] 0 396,Pqnx 152 yg 160 399 [2,160,162,15] 0 402,Pqnx 152 yg 163 405 [3,163,164,0] 0 409,Pqnx 152 yg 167 418 [3,167,168,0] 0 422,Pqnx 152 yg 169 425 [1,169,172,0] 0 428,Pqnx 152 yg 172 431 [3,172,173,0] 0 435,Pqnx 152 yg 174 444 [3,174,175,0] 0 448,Pqnx 152 yg 177 457 [3,177,178,0] 0 461,Pqnx 152 yg 180 470 [3,180,181,0] 0 474,Pqnx 152 yg 181 477 [1,181,187,0] 0 480,Pqnx 152 yg 187 483 [3,187,188,0] 0 487,Pqnx 152 yg 189 490 [3,189,190,0] 0 494,Pqnx 152 yg 191 497 [2,191,193,15] 0 500,Pqnx 152 yg 194 503 [3,194,195,0] 0 507,Pqnx 152 yg 197 516 [3,197,198,0] 0 520,Pqnx 152 yg 199 523 [3,199,201,0] 0 527]
theorem ycqi:ybq yedk:=ybq.seq ybq.nil (by kernel_rfl)
def yefs:List Fact:=[Pqnx 152 yg 204 536 [3,204,206,0] 0 540,Pqnx 152 yg 207 543 [1,207,212,0] 0 546,Pqnx 152 yg 212 549 [3,212,213,0] 0 553,Pqnx 152 yg 214 562 [3,214,215,0] 0 566,Pqnx 152 yg 217 575 [3,217,218,0] 0 579,Pqnx 152 yg 220 588 [3,220,221,0] 0 592,Pqnx 152 yg 221 595 [1,221,227,0] 0 598,Pqnx 152 yg 228 601 [3,228,230,0] 0 605,Pqnx 152 yg 231 608 [1,231,234,0] 0 611,Pqnx 152 yg 234 614 [3,234,235,0] 0 618,Pqnx 152 yg 236 627 [3,236,237,0] 0 631,Pqnx 152 yg 239 640 [3,239,240,0] 0 644,Pqnx 152 yg 242 653 [3,242,243,0] 0 657,Pqnx 152 yg 243 660 [1,243,249,0] 0 663,Pqnx 152 yg 249 666 [3,249,250,0] 0 670,Pqnx 152 yg 250 673 [3,250,251,0] 0 677,Pqnx 152 yg 251 680 [3,251,252,0] 0 684,Pqnx 152 yg 260 700 [3,260,262,0] 0 704,Pqnx 152 yg 263 707 [3,263,264,0] 0 711,Pqnx 152 yg 264 714 [1,264,267,0] 0 717]
theorem ycni:ybq yefs:=ybq.seq ybq.nil (by kernel_rfl)
def yeec:List Fact:=[Pqnx 152 yg 267 720 [3,267,268,0] 0 724,Pqnx 152 yg 269 733 [3,269,270,0] 0 737,Pqnx 152 yg 272 746 [3,272,273,0] 0 750,Pqnx 152 yg 275 759 [3,275,276,0] 0 763,Pqnx 152 yg 276 766 [1,276,282,0] 0 769,Pqnx 152 yg 282 772 [3,282,283,0] 0 776,Pqnx 152 yg 284 779 [3,284,285,0] 0 783,Pqnx 152 yg 286 786 [2,286,288,15] 0 789,Pqnx 152 yg 289 792 [3,289,290,0] 0 796,Pqnx 152 yg 293 805 [3,293,294,0] 0 809,Pqnx 152 yg 295 812 [1,295,298,0] 0 815,Pqnx 152 yg 298 818 [3,298,299,0] 0 822,Pqnx 152 yg 300 831 [3,300,301,0] 0 835,Pqnx 152 yg 303 844 [3,303,304,0] 0 848,Pqnx 152 yg 306 857 [3,306,307,0] 0 861,Pqnx 152 yg 307 864 [1,307,313,0] 0 867,Pqnx 152 yg 313 870 [3,313,314,0] 0 874,Pqnx 152 yg 315 877 [3,315,316,0] 0 881,Pqnx 152 yg 317 884 [2,317,319,15] 0 887,Pqnx 152 yg 320 890 [3,320,321,0] 0 894]
theorem ycqd:ybq yeec:=ybq.seq ybq.nil (by kernel_rfl)
def yeew:List Fact:=[Pqnx 152 yg 323 903 [3,323,324,0] 0 907,Pqnx 152 yg 324 910 [3,324,325,0] 0 914,Pqnx 152 yg 328 923 [3,328,330,0] 0 927,Pqnx 152 yg 331 930 [1,331,336,0] 0 933,Pqnx 152 yg 336 936 [3,336,337,0] 0 940,Pqnx 152 yg 338 949 [3,338,339,0] 0 953,Pqnx 152 yg 341 962 [3,341,342,0] 0 966,Pqnx 152 yg 344 975 [3,344,345,0] 0 979,Pqnx 152 yg 345 982 [1,345,351,0] 0 985,Pqnx 152 yg 352 988 [3,352,354,0] 0 992,Pqnx 152 yg 355 995 [1,355,358,0] 0 998,Pqnx 152 yg 358 1001 [3,358,359,0] 0 1005,Pqnx 152 yg 360 1014 [3,360,361,0] 0 1018,Pqnx 152 yg 363 1027 [3,363,364,0] 0 1031,Pqnx 152 yg 366 1040 [3,366,367,0] 0 1044,Pqnx 152 yg 367 1047 [1,367,373,0] 0 1050,Pqnx 152 yg 373 1053 [3,373,374,0] 0 1057,Pqnx 152 yg 374 1060 [3,374,375,0] 0 1064,Pqnx 152 yg 375 1067 [3,375,376,0] 0 1071]
theorem ycnw:ybq yeew:=ybq.seq ybq.nil (by kernel_rfl)
end Ev
end
section
namespace Ev
def yeds:List Fact:=[⟨117,[.string yg],2,[],.tuple #[.slice (some ⟨1073,0,none⟩) 164 CU,Pqii 0,Pqii 0],1074,[⟨1073,178,4,ytk⟩],2⟩]
theorem ycoo:ybq yeds:=ybq.one (ydm.cons (n:=169) ycpd (ydm.cons (n:=346) ycpg (ydm.cons (n:=523) ycqi (ydm.cons (n:=714) ycni (ydm.cons (n:=890) ycqd (ydm.cons (n:=1067) ycnw ydm.nil)))))) (by kernel_rfl)
def yduc:List Fact:=[⟨212,[.pointer (some ⟨1074,0,none⟩),Pqii 3],1263,[⟨1073,178,4,ytk⟩,⟨1074,144,0,[.string yg,.slice (some ⟨1073,184,none⟩) 118 CU,.slice (some ⟨1116,0,none⟩) 2 CU,.string (by8 [112,97,116,104,115]),.slice (some ⟨1118,0,none⟩) 2 CU,.slice (some ⟨1238,0,none⟩) 1 CU,.slice (some ⟨1245,0,none⟩) 2 CU]⟩,⟨1116,9,1,[.string (by8 [100]),.string (by8 [112])]⟩,⟨1118,160,6,[.string (by8 [100]),Pqii 1,Pqii 0,Pqii 0,Pqii 15,Pqii 0,.string (by8 [112]),Pqii 3,Pqii 0,Pqii 0,Pqii 0,Pqii 0]⟩,Pqb0,Pqb1,Pqb2,Pqb3,⟨1238,193,3,[.string (by8 [116,111,112]),.slice (some ⟨1197,0,none⟩) 9 CU,.slice (some ⟨1234,0,none⟩) 2 CU]⟩,⟨1245,9,1,[.string (by8 [116,111,112]),.string (by8 [108,111,119])]⟩],.slice (some ⟨1537,0,none⟩) 30 CU,1544,[⟨1074,144,0,[.string yg,.slice (some ⟨1073,420,none⟩) 59 CU,.slice (some ⟨1116,0,none⟩) 2 CU,.string (by8 [112,97,116,104,115]),.slice (some ⟨1118,0,none⟩) 2 CU,.slice (some ⟨1238,0,none⟩) 1 CU,.slice (some ⟨1245,0,none⟩) 2 CU]⟩,⟨1116,9,1,[.string (by8 [100]),.string (by8 [112])]⟩,⟨1118,160,6,[.string (by8 [100]),Pqii 1,Pqii 0,Pqii 0,Pqii 15,Pqii 0,.string (by8 [112]),Pqii 3,Pqii 0,Pqii 0,Pqii 0,Pqii 0]⟩,Pqb0,Pqb1,Pqb2,Pqb3,⟨1238,193,3,[.string (by8 [116,111,112]),.slice (some ⟨1197,0,none⟩) 9 CU,.slice (some ⟨1234,0,none⟩) 2 CU]⟩,⟨1245,9,1,[.string (by8 [116,111,112]),.string (by8 [108,111,119])]⟩,⟨1537,251,2,ydxs⟩],1074⟩]
theorem ybxg:ybq yduc:=ybq.seq (ybq.append ycnc ycqq) (by kernel_rfl)
def ybzg:Fact:=⟨164,[.agg #[.string (by8 [108,111,119]),.slice (some ⟨1547,0,none⟩) 33 CU,.slice (some ⟨1809,0,none⟩) 2 CU],Pqii 2],1898,[⟨1547,251,2,ywx⟩,Pqb5,Pqb4,Pqb6],.bool true,2250,[],1898⟩
def ydyb:List Fact:=[ybzg]
theorem ybir:ybq ydyb:=ybq.seq ycgu (by kernel_rfl)
end Ev
end
section
namespace Ev
def ycjx:Fact:=⟨166,[.agg #[.string (by8 [108,111,119]),.slice (some ⟨1547,0,none⟩) 33 CU,.slice (some ⟨1809,0,none⟩) 2 CU],.slice (some ⟨2251,0,none⟩) 2 2],2372,[⟨1547,251,2,ywx⟩,Pqb5,Pqb4,Pqb6,⟨2251,3,1,(PqiL [1,3])⟩],.bool true,2958,[],2372⟩
def yebz:List Fact:=[ycjx]
theorem ybjs:ybq yebz:=ybq.seq ycdv (by kernel_rfl)
end Ev
end
section
namespace Ev
def ydus:List Fact:=[⟨157,[.pointer (some ⟨1074,0,none⟩),.string (by8 [114,117,108,101]),Pqii 12,.func (.func 159) #[.pointer (some ⟨1074,0,none⟩)] #[]],1119,[⟨1073,178,4,ytk⟩,⟨1074,144,0,[.string yg,.slice (some ⟨1073,68,none⟩) 147 CU,.slice (some ⟨1116,0,none⟩) 2 CU,.string (by8 [112,97,116,104,115]),.slice (some ⟨1118,0,none⟩) 2 CU,.slice none 0 0,.slice none 0 0]⟩,⟨1116,9,1,[.string (by8 [100]),.string (by8 [112])]⟩,⟨1118,160,6,[.string (by8 [100]),Pqii 1,Pqii 0,Pqii 0,Pqii 15,Pqii 0,.string (by8 [112]),Pqii 3,Pqii 0,Pqii 0,Pqii 0,Pqii 0]⟩],.tuple #[],1814,[⟨1074,144,0,[.string yg,.slice (some ⟨1073,656,none⟩) 0 CU,.slice (some ⟨1116,0,none⟩) 2 CU,.string (by8 [112,97,116,104,115]),.slice (some ⟨1118,0,none⟩) 2 CU,.slice (some ⟨1813,0,none⟩) 2 CU,.slice (some ⟨1245,0,none⟩) 2 CU]⟩,⟨1116,9,1,[.string (by8 [100]),.string (by8 [112])]⟩,⟨1118,160,6,[.string (by8 [100]),Pqii 1,Pqii 0,Pqii 0,Pqii 15,Pqii 0,.string (by8 [112]),Pqii 3,Pqii 0,Pqii 0,Pqii 0,Pqii 0]⟩,Pqb0,Pqb1,Pqb2,Pqb3,⟨1245,9,1,[.string (by8 [116,111,112]),.string (by8 [108,111,119])]⟩,⟨1547,251,2,ywx⟩,Pqb5,Pqb4,Pqb6,⟨1813,193,3,[.string (by8 [116,111,112]),.slice (some ⟨1197,0,none⟩) 9 CU,.slice (some ⟨1234,0,none⟩) 2 CU,.string (by8 [108,111,119]),.slice (some ⟨1547,0,none⟩) 33 CU,.slice (some ⟨1809,0,none⟩) 2 CU]⟩],1074⟩]
theorem ybxn:ybq ydus:=ybq.seq (ybq.append yclk (ybq.append ybxg (ybq.append ybxf ycbw))) (by kernel_rfl)
def Pqm0:Fact:=ybzg.move [1547,1698,1802,1809] 3044
theorem ydhx:yhe zA Pqm0:=yyk (ybq.at_ ybir 0 rfl) (by kernel_rfl)
def Pqm1:Fact:=ycjx.move [1547,1698,1802,1809,3397] 3518
theorem ydim:yhe zA Pqm1:=yyk (ybq.at_ ybjs 0 rfl) (by kernel_rfl)
def ybli:Fact:=⟨130,[.agg #[.string (by8 [112,97,116,104,115]),.slice (some ⟨1118,0,none⟩) 2 CU,.slice (some ⟨1813,0,none⟩) 2 CU]],2959,[⟨1118,160,6,[.string (by8 [100]),Pqii 1,Pqii 0,Pqii 0,Pqii 15,Pqii 0,.string (by8 [112]),Pqii 3,Pqii 0,Pqii 0,Pqii 0,Pqii 0]⟩,Pqb0,Pqb1,Pqb2,Pqb3,⟨1547,251,2,ywx⟩,Pqb5,Pqb4,Pqb6,⟨1813,193,3,[.string (by8 [116,111,112]),.slice (some ⟨1197,0,none⟩) 9 CU,.slice (some ⟨1234,0,none⟩) 2 CU,.string (by8 [108,111,119]),.slice (some ⟨1547,0,none⟩) 33 CU,.slice (some ⟨1809,0,none⟩) 2 CU]⟩],.bool true,4104,[],2959⟩
def ydoz:List Fact:=[ybli]
theorem ybzp:ybq ydoz:=ybq.seq (ybq.append (ybq.cons (f:=Pqm0) ydhx ybq.nil) (ybq.cons (f:=Pqm1) ydim ybq.nil)) (by kernel_rfl)
end Ev
end
section
namespace Ev
def ysl:Fact:=⟨11,[.string yg],0,[],.agg #[.string (by8 [112,97,116,104,115]),.slice (some ⟨1118,0,none⟩) 2 CU,.slice (some ⟨1813,0,none⟩) 2 CU],2959,[⟨1118,160,6,[.string (by8 [100]),Pqii 1,Pqii 0,Pqii 0,Pqii 15,Pqii 0,.string (by8 [112]),Pqii 3,Pqii 0,Pqii 0,Pqii 0,Pqii 0]⟩,Pqb0,Pqb1,Pqb2,Pqb3,⟨1547,251,2,ywx⟩,Pqb5,Pqb4,Pqb6,⟨1813,193,3,[.string (by8 [116,111,112]),.slice (some ⟨1197,0,none⟩) 9 CU,.slice (some ⟨1234,0,none⟩) 2 CU,.string (by8 [108,111,119]),.slice (some ⟨1547,0,none⟩) 33 CU,.slice (some ⟨1809,0,none⟩) 2 CU]⟩],0⟩
def yeax:List Fact:=[ysl]
theorem ybzx:ybq yeax:=ybq.seq (ybq.append ycoo (ybq.append ybxn (ybq.append ybir ybjs))) (by kernel_rfl)
end Ev
end
section
namespace Ev
end Ev
end
end Go.Proofs.YthclbjjgfcgbgaaGreatDoor
