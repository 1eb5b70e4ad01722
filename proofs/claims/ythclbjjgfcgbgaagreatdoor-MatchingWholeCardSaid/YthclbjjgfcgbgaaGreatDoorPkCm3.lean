/- Joined. -/
import Derived.Test.YthclbjjgfcgbgaaGreatDoorPkCm2
set_option linter.unusedSimpArgs false
set_option linter.unusedVariables false
open BitVec renaming ofInt->zA
open Nat renaming ble_eq_true_of_le->zB,le_refl->zF,eq_of_beq_eq_true->zG,mul_le_mul_right->zI,blt->zJ,succ_le_of_lt->zK,testBit->zL,add_assoc->zM,beq_refl->zN,succ_mul->zO,add_mul->zQ,mul->zS
open Bool renaming and_eq_true->zC
open Int renaming eq_ofNat_of_zero_le->zD,toNat_natCast->zH
open Go
namespace Go.Proofs.YthclbjjgfcgbgaaGreatDoor
section
namespace Ev
open Go Go.RowKit
section
variable {P:Program}{self:Task->Option Out}{φ φ':Phi}{M M':AM}{w w':World}{f f':Fr}{m m' m'':Mem}{a:Act}
theorem yrz{g:Nat}{h:Option Nat}(e:hit g h=true):h=some g:=by
 unfold hit at e;split at e
 .rw[zG e]
 .cases e
theorem yda.task{c:Code}{e:Exit}(h:Wf m->yda P c f m e f' m'):ycb P (.code c f m) (.code e f' m'):=fun hw=>⟨(h hw).1.ext,(h hw).1.low,(h hw).2⟩
def El.enc(x:El):Array Value:=#[x.v0,x.v1]
def ybki(P:Program)(g:FuncId):Prop:=(∀args w,(callFunc g args).run P w = .ok (.enter g args) w) /\
 ∀ (l:Nat) (A:Addr) (gv:GV) (St:List El->Phi->AM->World->Prop) (Stop:World->Prop) (φ:Phi) (M:AM) (w:World) (box:Value),
   (∀pre φ M w,St pre φ M w->∃m,Rel φ M w/\Sub m M/\graphOf m A=some gv) ->
   (∀pre φ M w w',St pre φ M w->Below w.heap.size w w'->St pre φ M w') ->
   (∀pre x post φ M w,St pre φ M w->flatAt 0 gv.ps=pre++x::post->YieldAt Fence.wide 0 P l x.enc w fun e w' =>
     (e = .returned (.bool true)/\∃φ' M',φ.le φ'/\St (pre++[x]) φ' M' w')\/(e = .returned (.bool false)/\Stop w')) ->
   St [] φ M w->VR φ (.pointer (some A)) box ->
   CallsIn Fence.wide 0 P g #[.func (.yield l) #[] #[],box] w fun e w'=>(∃v,e = .returned v)/\((∃φ' M',St (flatAt 0 gv.ps) φ' M' w')\/Stop w')
theorem Good.put(h:Good φ M w m m' φ' M' w'){l:Nat}{x:Obj}(hll:∃y,w'.heap[l]?=some (.loop y))(hlo:w.heap.size<=l):Good φ M w m m' φ' M' (w'.putObj l x):=by
 have hl:¬Img φ' M' l:=Img.not_loop h.rel hll.choose_spec;refine⟨h.le,h.out,⟨⟨fun i b hb=>?_,h.rel.inj⟩,fun x hx=>⟨?_,(h.rel.gl x hx).2⟩⟩,h.sub,h.frame,?_⟩
 .obtain⟨lc,q1,q2⟩:=h.rel.blk i b hb;exact⟨lc,q1,q2.keep (World.putObj_heap_other fun e=>hl ⟨i,b,lc,hb,q1,e⟩)⟩
 .obtain⟨e,fz,q⟩:=(h.rel.gl x hx).1;exact⟨e,fz,(World.putObj_heap_other fun z=>by obtain⟨y,hy⟩:=hll;rw[z,hy]at q;cases q).trans q⟩
 .have hg:=h.wg;refine⟨hg.os,hg.tape,hg.output,by simp;exact hg.size,fun k hk hn=>?_,hg.img⟩
  rw[World.putObj_heap_other (by omega)]
  exact hg.keep k hk hn
theorem Good.below(h:Good φ M w m m' φ' M' w'){w'':World}(hb:Below w'.heap.size w' w''):Good φ M w m m' φ' M' w'' :=
 ⟨h.le,h.out,h.rel.keep fun k hk=>hb.block k hk,h.sub,h.frame,
   h.wg.trans ⟨hb.os,hb.tape,hb.output,hb.size,fun k hk _=>hb.block k hk,fun _ _ q=>q⟩⟩
theorem yha{p q:Nat}{assign body:Code}{ok:Mem->Bool}{x:El}{l:List El}{out:Out}(h:evRounds self f p q assign body ok (x::l) m=some out) :
 ok m=true/\∃f1 f2 f3 m1 o2,Fr.putD x.v0 p f=some f1/\Fr.putD x.v1 q f1=some f2/\self (.code assign f2 m)=some (.code .normal f3 m1)/\self (.code body f3 m1)=some o2 /\
  afterRound f (evRounds self f p q assign body ok l) o2=some out:=by
 change iteB (ok m) (ob (evRound self f p q assign body x m) (afterRound f (evRounds self f p q assign body ok l))) none=some out at h
 obtain⟨h1,h2⟩:=ybd h;obtain⟨o2,h3,h4⟩:=yg h2;unfold evRound at h3;rw[ybp]at h3;obtain⟨f1,k1,h5⟩:=yg h3;obtain⟨f2,k2,h6⟩:=yg h5;obtain⟨o1,k3,h7⟩:=yg h6;unfold bodyRound at h7;split at h7
 .rename_i f3 m1
  exact⟨h1,f1,f2,f3,m1,o2,k1,k2,k3,h7,h4⟩
 .cases h7
theorem yii{p q:Nat}{assign body:Code}{ok:Mem->Bool}{out:Out}(h:evRounds self f p q assign body ok [] m=some out):ok m=true/\out = .code .normal f m:=by
 change iteB (ok m) (some (.code .normal f m)) none=some out at h
 obtain⟨h1,h2⟩:=ybd h;cases h2
 exact⟨h1,rfl⟩
theorem ybgl{p q:Nat}{assign body:Code}{ok:Mem->Bool}{l:List El}{out:Out}(h:evRounds self f p q assign body ok l m=some out):ok m=true:=by
 cases l with
 |nil=>exact(yii h).1
 |cons x l=>exact(yha h).1
theorem yjp(hself:yex P self){p q:Nat}{assign body:Code}{ok:Mem->Bool}:∀{l:List El}{m:Mem}{out:Out},evRounds self f p q assign body ok l m=some out->Wf m->∃e m',out = .code e f m'/\Grow m m'
 | [],m,out,h,hw=>by
   obtain⟨_,rfl⟩:=yii h;exact⟨_,m,rfl,Grow.refl hw⟩
 | x :: l,m,out,h,hw=>by
   obtain⟨_,f1,f2,f3,m1,o2,_,_,k3,k4,k5⟩:=yha h;obtain⟨e1,g1,n1,q1,s1⟩:=ydc hself k3 hw;cases q1
   obtain⟨e2,g2,n2,q2,s2⟩:=ydc hself k4 s1.1.ext.wf;subst q2;have hg:=s1.1.trans s2.1;cases e2 with
   | normal =>
     obtain⟨e,m',r1,r2⟩:=yjp hself (l:=l) k5 s2.1.ext.wf;exact⟨e,m',r1,hg.trans r2⟩
   |ret=>cases k5;exact⟨_,_,rfl,hg⟩
   |exit id=>cases k5;exact⟨_,_,rfl,hg⟩
   |_=>cases k5
theorem FrR.putD{v v':Value}{k:Nat}{f1:Fr}(h:FrR φ f a)(hp:Fr.putD v k f=some f1)(hv:VR φ v v'):FrR φ f1 (a.put (some k) v'):=FrR.put (d:=some k) h hp hv
theorem ybum:∀{x y:List (Int×Int)},eqLk x y=true->x=y
 |[],[],_=>rfl
 | x::l,y::k,h=>by
   have h:(eqInt x.1 y.1&&eqInt x.2 y.2&&eqLk l k)=true:=h;simp only[zC]at h;rw[ybum h.2];congr 1;exact Prod.ext (ysb h.1.1) (ysb h.1.2)
 |[],_::_,h=>by cases h
 |_::_,[],h=>by cases h
theorem ybwj:∀{x y:List (List (Int×Int))},eqPs x y=true->x=y
 |[],[],_=>rfl
 | x::l,y::k,h=>by
   have h:(eqLk x y&&eqPs l k)=true:=h;simp only[zC]at h;rw[ybwj h.2,ybum h.1]
 |[],_::_,h=>by cases h
 |_::_,[],h=>by cases h
theorem ycgz{A:Addr}{gv:GV}(h:sameG A gv m=true):graphOf m A=some gv:=by
 unfold sameG at h;split at h
 .rename_i k hk
  simp only[zC]at h;rw[hk];obtain⟨v,us,ps⟩:=k;obtain⟨v',us',ps'⟩:=gv;have e1:v=v':=ybxt h.1.1;have e2:us=us':=ypg h.1.2;have e3:ps=ps':=ybwj h.2;rw[e1,e2,e3]
 .cases h
theorem yra{p q:Nat}{assign body:Code}{ok:Mem->Bool}:∀{l:List El}{m:Mem}{out:Out},evRounds self f p q assign body ok l m=some out->∃e m',out = .code e f m'
 |[],m,out,h=>⟨_,m,(yii h).2⟩
 | x::l,m,out,h=>by
   obtain⟨_,f1,f2,f3,m1,o2,_,_,_,_,k5⟩:=yha h;unfold afterRound at k5;split at k5
   .exact yra (l:=l) k5
   .cases k5;exact⟨_,_,rfl⟩
   .cases k5;exact⟨_,_,rfl⟩
   .cases k5
theorem ybff{r:Option Nat}{w:World}(h:InR r w)(fn:FuncId)(tmps:Array Value)(ps:Array Tmp)(assign body:Code):∃(L D:Nat) (mark:List Deferred) (W1:World) (DP:World->Prop),
 w.heap.size<=L/\(Instr.enterLoop fn tmps ps assign body r).run P w = .ok (L,mark) W1/\W1.heap[L]?=some (.loop { state:=.ready,pending:=none,fn,tmps,params:=ps,assign,body,defers:=D })/\Below w.heap.size w W1/\DP W1 /\
 (∀A B,Below A.heap.size A B->DP A->DP B)/\(∀(φ φ':Phi) (M M':AM) (A B:World),Rel φ M A->WG φ M A φ' M' B->DP A->DP B)/\(∀(A:World) (x:Obj),DP A->DP (A.putObj L x))/\∀(A:World) (a:Act),DP A->Df w A a { a with defers:=mark++a.defers }:=by
 cases r with
 | none =>
   refine⟨w.heap.size+1,w.heap.size,[{ target:=.collected w.heap.size,args:=#[] }],_,fun W=>W.heap[w.heap.size]?=some (.deferred (some [])),by omega,run_enterLoop_outer _ _ _ _ _,?_,?_,?_,?_,?_,?_,?_⟩
   .have:=World.alloc_heap_new (w.alloc (.deferred (some []))) (.loop { state:=.ready,pending:=none,fn,tmps,params:=ps,assign,body,defers:=w.heap.size })
    rwa [World.size_alloc]at this
   .exact((Below.refl _ w).alloc (zF _) _).alloc (by simp) _
   .exact(Below.heap_alloc _ _ _ (by simp)).trans (World.alloc_heap_new w _)
   .exact fun A B hb hd=>(hb.block _ (Array.getElem?_eq_some_iff.1 hd).1).trans hd
   .exact fun φ φ' M M' A B hR hg hd=>(hg.keep _ (Array.getElem?_eq_some_iff.1 hd).1 (Img.not_deferred hR hd)).trans hd
   .exact fun A x hd=>(World.putObj_heap_other (by omega)).trans hd
   .refine fun A a hd=>⟨[{ target:=.collected w.heap.size,args:=#[] }],rfl,List.pairwise_singleton _ _,fun d hd'=>?_⟩;rw[List.mem_singleton]at hd';subst hd';exact⟨w.heap.size,zF _,rfl,hd⟩
 | some l =>
   obtain⟨x,hx⟩:=h l rfl;refine⟨w.heap.size,x.defers,[],_,fun _=>True,zF _,run_enterLoop_inner hx _ _ _ _ _,World.alloc_heap_new _ _,(Below.refl _ w).alloc (zF _) _,trivial,fun _ _ _ _=>trivial,fun _ _ _ _ _ _ _ _ _=>trivial,fun _ _ _=>trivial,fun A a _=>Df.same rfl⟩
set_option maxHeartbeats 1000000 in
theorem ybhm {lk:Option Nat}(hlk:∀g,lk=some g->ybki P g) (hself:yex P self) {gx:Operand}{ps:Array Tmp}{assign body:Code}{v:Value}{out:Out}
 (hv:f.get gx=some v) (h:evRange self lk f m ps.toList assign body v=some out):ycb P (.code (.rangeFunc gx ps assign body) f m) out:=by
 unfold evRange at h;split at h
 .rename_i g first captured
  split at h
  .rename_i p q A hps hfirst hcap
   obtain⟨hc,h2⟩:=ybd h;simp only[zC]at hc;obtain⟨⟨hg,_⟩,_⟩:=hc;obtain⟨gv,hgv,h3⟩:=yg h2;have hit:=hlk g (yrz hg);obtain⟨e0,mf,rfl⟩:=yra h3;have hps':ps = #[p,q]:=Array.toList_inj.1 hps;refine yda.task fun hw=>⟨?_,fun φ M w a r hnr hR hs hf hfr=>?_⟩
   .obtain⟨e,m',q1,q2⟩:=yjp hself h3 hw;cases q1
    exact q2
   .have hvr:=yjj (a:=a) (fun t v _ ht=>hf.get t v ht) hv;obtain⟨x',y',e1,e2,e3⟩:=hvr.func_inv;rw[hfirst]at e2;rw[hcap]at e3;cases e2
    obtain⟨box,rfl,hbox⟩:=ygi e3;refine wpIn_rangeFunc ?_;intro fn _;obtain⟨L,D,mark,W1,DP,hwL,henter,hL1,hb1,hK1,dBelow,dStep,dPut,dDf⟩:=ybff (P:=P) hnr fn a.tmps ps assign body;obtain⟨rec,hrec⟩:∃rec:LoopState->Option Code->Loop,rec=fun st pe=>{ state:=st,pending:=pe,fn,tmps:=a.tmps,params:=ps,assign,body,defers:=D }:=⟨_,rfl⟩;have hL1:W1.heap[L]?=some (.loop (rec .ready none)):=by rw[hrec];exact hL1
    refine⟨L,mark,W1,{ target:=.fn (.func g) #[box],args:=#[.func (.yield L) #[] #[]] },W1,g,
     #[.func (.yield L) #[] #[],box],W1,?_,?_,fun _ _=>trivial,?_,fun q=>(by cases q),?_⟩
    .exact henter
    .simp only[resolve,e1];simp[go_sem]
    .simp[invoke,go_sem,hit.1]
    .let St:List El->Phi->AM->World->Prop:=fun pre φ' M' W=>∃rest mi,flatAt 0 gv.ps=pre++rest/\evRounds self f p q assign body (sameG A gv) rest mi=some (.code e0 f mf)/\Grow m mi/\Good φ M w m mi φ' M' W /\
      W.heap[L]?=some (.loop (rec .ready none))/\DP W
     let Stop:World->Prop:=fun W=>∃c φ' M',((c=Code.ret/\e0 = .ret)\/∃id,c = .exit id/\e0 = .exit id)/\Good φ M w m mf φ' M' W /\
      W.heap[L]?=some (.loop (rec .done (some c)))/\DP W
     refine CallsIn.mono (hit.2 L A gv St Stop φ M W1 box ?_ ?_ ?_ ?_ hbox) ?_
     .rintro pre φ' M' W ⟨rest,mi,_,k2,_,k4,_⟩;exact⟨mi,k4.rel,k4.sub,ycgz (ybgl k2)⟩
     .rintro pre φ' M' W W' ⟨rest,mi,k1,k2,k3,k4,k5,k6⟩ hb;exact⟨rest,mi,k1,k2,k3,k4.below hb,(hb.block _ (Array.getElem?_eq_some_iff.1 k5).1).trans k5,dBelow _ _ hb k6⟩
     .rintro pre x post φ' M' W ⟨rest,mi,k1,k2,k3,hgd,hl,hd⟩ hfl;rw[k1]at hfl;have hrest:rest=x::post:=List.append_cancel_left hfl;subst hrest;obtain⟨_,f1,f2,f3,m1,o2,p1,p2,p3,p4,p5⟩:=yha k2;obtain⟨e1',g1,n1,q1,s1⟩:=ydc hself p3 k3.ext.wf;cases q1
      obtain⟨e2',g2,m2,q2,s2⟩:=ydc hself p4 s1.1.ext.wf;subst q2
      have hm2:m2.next<=mf.next:=by
       cases e2' with
       | normal =>
         obtain⟨e,m',r1,r2⟩:=yjp hself (l:=post) p5 s2.1.ext.wf;cases r1
         exact r2.ext.next
       |ret=>cases p5;exact zF _
       |exit id=>cases p5;exact zF _
       |_=>cases p5
      have hfr1:ygv φ' mi.next mf.next:=hgd.fresh k3.ext hfr
      have hlt:L<W.heap.size:=(Array.getElem?_eq_some_iff.1 hl).1;have hy:=run_yield (P:=P) (args:=x.enc) hl (by rw[hrec,hps'];rfl)
      rw[hrec]at hy;refine⟨fn,_,assign,body,hy,roundIn_of_wpIn (F:=Fence.wide) (n:=0) trivial ?_⟩;have hfr0:=((hf.mono hgd.le).putD p1 (VR.simple (v:=x.v0) rfl)).putD p2 (VR.atomA (v:=x.v1) rfl)
      have hfr2:FrR φ' f2 { tmps:=(ps.zip x.enc).foldl (fun tmps (t,a)=>tmps.setIfInBounds t a) a.tmps,defers:=[] }:=by
       have et:(ps.zip x.enc).foldl (fun tmps (t,a)=>tmps.setIfInBounds t a) a.tmps=((a.put (some p) x.v0).put (some q) x.v1).tmps:=by
        rw[hps'];simp[El.enc,Act.put]
       rw[et];exact⟨hfr0.size,hfr0.get⟩
      refine wpIn_mono (s1.2 φ' M' W _ (some L) (fun l q=>by cases q;exact⟨_,hl⟩) hgd.rel hgd.sub hfr2 (hfr1.left (Nat.le_trans s2.1.ext.next hm2))) ?_
      rintro e' a1 w1 ⟨rfl,φ1,M1,hg1,hf1,_⟩;have hl1:w1.heap[L]?=some (.loop (rec .ready none)):=(hg1.wg.keep _ hlt (Img.not_loop hgd.rel hl)).trans hl;have hd1:DP w1:=dStep _ _ _ _ _ _ hgd.rel hg1.wg hd;have hlt1:L<w1.heap.size:=(Array.getElem?_eq_some_iff.1 hl1).1;refine⟨_,run_beginRound hl1 (by rw[hrec]),?_⟩
      have G1:Good φ M w m m1 φ1 M1 w1:=Good.trans k3.ext s1.1.ext s1.1.low hgd hg1;have G1':=G1.put (l:=L) (x:=.loop { rec .ready none with state:=.busy }) ⟨_,hl1⟩ (by omega)
      have hlb:(w1.putObj L (.loop { rec .ready none with state:=.busy })).heap[L]?=some (.loop { rec .ready none with state:=.busy }):=World.putObj_heap_same hlt1;have hdb:DP (w1.putObj L (.loop { rec .ready none with state:=.busy })):=dPut _ _ hd1;refine wpIn_mono (s2.2 φ1 M1 _ a1 (some L) (fun l q=>by cases q;exact⟨_,hlb⟩) G1'.rel G1'.sub hf1 ((hg1.fresh s1.1.ext hfr1).left hm2)) ?_
      rintro e' a2 w2 ⟨rfl,φ2,M2,hg2,_,_⟩;have hltb:L<(w1.putObj L (.loop { rec .ready none with state:=.busy })).heap.size:=(Array.getElem?_eq_some_iff.1 hlb).1;have hl2:=(hg2.wg.keep _ hltb (Img.not_loop G1'.rel hlb)).trans hlb;have hd2:=dStep _ _ _ _ _ _ G1'.rel hg2.wg hdb;have hlt2:L<w2.heap.size:=(Array.getElem?_eq_some_iff.1 hl2).1;have G2:Good φ M w m m2 φ2 M2 w2:=Good.trans (k3.trans s1.1).ext s2.1.ext s2.1.low G1' hg2
      have hle2:φ'.le φ2:=Phi.le_trans hg1.le hg2.le
      have fin:∀(jump:Option Code),(w2.putObj L (.loop (rec (if jump.isNone then .ready else .done) jump))).heap[L]?=some (.loop (rec (if jump.isNone then .ready else .done) jump)) /\
       DP (w2.putObj L (.loop (rec (if jump.isNone then .ready else .done) jump)))/\Good φ M w m m2 φ2 M2 (w2.putObj L (.loop (rec (if jump.isNone then .ready else .done) jump))) /\
       (Instr.endRound L jump).run P w2 = .ok (.bool jump.isNone) (w2.putObj L (.loop (rec (if jump.isNone then .ready else .done) jump))):=fun jump=>by
       refine⟨World.putObj_heap_same hlt2,dPut _ _ hd2,G2.put ⟨_,hl2⟩ (by omega),?_⟩
       have:=run_endRound (P:=P) jump hl2;rw[hrec]at this ⊢;exact this
      cases e' with
      | normal =>
        obtain⟨a1',a2',a3',a4'⟩:=fin none;exact⟨_,_,a4',.inl ⟨rfl,φ2,M2,hle2,post,m2,by rw[k1];simp,p5,(k3.trans s1.1).trans s2.1,a3',a1',a2'⟩⟩
      | ret =>
        obtain⟨a1',a2',a3',a4'⟩:=fin (some .ret);cases p5
        exact⟨_,_,a4',.inr ⟨rfl,.ret,φ2,M2,.inl ⟨rfl,rfl⟩,a3',a1',a2'⟩⟩
      | exit id =>
        obtain⟨a1',a2',a3',a4'⟩:=fin (some (.exit id));cases p5
        exact⟨_,_,a4',.inr ⟨rfl,.exit id,φ2,M2,.inr ⟨id,rfl,rfl⟩,a3',a1',a2'⟩⟩
      |_=>cases p5
     .refine⟨flatAt 0 gv.ps,m,rfl,h3,Grow.refl hw,(Good.refl hR hs).below hb1,hL1,hK1⟩
     .have fin:∀{φ' M' W c st},st ≠ .busy->Good φ M w m mf φ' M' W->W.heap[L]?=some (.loop (rec st c))->DP W ->
       ∃ w4,(Instr.endLoop L).run P W = .ok c w4/\Good φ M w m mf φ' M' w4/\FrR φ' f { a with defers:=mark++a.defers } /\
         Df w w4 a { a with defers:=mark++a.defers }:=by
       intro φ' M' W c st hst hgd hl hd;have hlt:L<W.heap.size:=(Array.getElem?_eq_some_iff.1 hl).1;have hrun:=run_endLoop (P:=P) hl (by rw[hrec];exact hst)
       have hpend:(rec st c).pending=c:=by rw[hrec]
       rw[hpend]at hrun;exact⟨_,hrun,hgd.put ⟨_,hl⟩ (by omega),⟨(hf.mono hgd.le).size,(hf.mono hgd.le).get⟩,dDf _ a (dPut _ _ hd)⟩
      rintro e W ⟨⟨v,rfl⟩,(⟨φ',M',rest,mi,k1,k2,k3,hgd,hl,hd⟩|⟨c,φ',M',hc,hgd,hl,hd⟩)⟩
      .have hrest:rest=[]:=by
        have:=congrArg List.length k1;rw[List.length_append]at this;exact List.eq_nil_of_length_eq_zero (by omega)
       subst hrest;obtain⟨_,k5⟩:=yii k2;cases k5
       obtain⟨w4,r1,r2,r3,r4⟩:=fin (by simp) hgd hl hd
       exact⟨none,w4,r1,rfl,φ',M',r2,r3,r4⟩
      .obtain⟨w4,r1,r2,r3,r4⟩:=fin (by simp) hgd hl hd
       rcases hc with⟨rfl,rfl⟩|⟨id,rfl,rfl⟩
       .exact⟨some .ret,w4,r1,wpIn_ret ⟨rfl,φ',M',r2,r3,r4⟩⟩
       .exact⟨some (.exit id),w4,r1,wpIn_exit ⟨rfl,φ',M',r2,r3,r4⟩⟩
  .cases h
 .cases h
end
end Ev
end
section
namespace Ev
open Go Go.RowKit
structure HooksOk(P:Program)(H:Hooks):Prop where
 catch_:∀g,H.catch_=some g->∀self,yex P self->∀args m out,evCatch self m args=some out->ycb P (.call g args m) out
 indexByte:∀g,H.indexByte=some g->∀args m out,evIndexByte m args=some out->ycb P (.call g args m) out
 symm:∀g,H.symm=some g->∀args m out,evSymm H.symB m args=some out->ycb P (.call g args m) out
 facts:∀c∈H.facts,∀f∈c.l,yeq P f
 links:∀g,H.links=some g->ybki P g
section
variable {P:Program}{self:Task->Option Out}{H:Hooks}{f f':Fr}{m m':Mem}
theorem ysu{c:Code}{e:Exit}(hc:∀r Q a w,Q e a w->c.wpIn (wr r) 0 P Q a w):ycb P (.code c f m) (.code e f m) :=
 yda.task fun hw=>⟨Grow.refl hw,fun φ M w a r _ hR hs hf _=>hc r _ a w ⟨rfl,φ,M,Good.refl hR hs,hf,Df.same rfl⟩⟩
theorem yvr(hmix:P.follows .mixedOrders=true){lk:Option Nat}(hlk:∀g,lk=some g->ybki P g)(hself:yex P self){c:Code}{out:Out}(h:codeStep P self lk f m c=some out):ycb P (.code c f m) out:=by
 unfold codeStep at h;split at h
 .cases h;exact ysu fun r Q a w hq=>wpIn_skip hq
 .rename_i x y
  obtain⟨o1,h1,h2⟩:=yg h;unfold thenCode at h2;split at h2
  .rename_i f1 m1
   have:∃e f' m',out = .code e f' m':=by
    have:=hself _ _ h2;cases out with
    |code e f' m'=>exact⟨e,f',m',rfl⟩
    |call v m'=>exact this.elim
   obtain⟨e,f',m',rfl⟩:=this;refine yda.task fun hw=>?_;obtain⟨e1,f2,m2,he,hs1⟩:=ydc hself h1 hw;cases he
   obtain⟨e2,f3,m3,he,hs2⟩:=ydc hself h2 hs1.1.ext.wf;cases he
   exact hs1.seq hs2
  .rename_i hne
   cases h2
   have:∃e f' m',out=Out.code e f' m':=by
    have:=hself _ _ h1;cases out with
    |code e f' m'=>exact⟨e,f',m',rfl⟩
    |call v m'=>exact this.elim
   obtain⟨e,f',m',rfl⟩:=this;refine yda.task fun hw=>?_;obtain⟨e1,f2,m2,he,hs1⟩:=ydc hself h1 hw;cases he
   refine⟨hs1.1,fun φ M w a r hn hR hs hf hfr=>wpIn_seq (wpIn_mono (hs1.2 φ M w a r hn hR hs hf hfr) ?_)⟩;intro e' a' w' hp;exact ylh (by rw[hp.1];intro q;subst q;exact hne _ _ rfl) hp
 .rename_i c x y
  obtain⟨v,hv,h2⟩:=yg h;unfold condStep at h2;split at h2
  .rename_i t
   have key:∀z:Code,self (.code z f m)=some out->(if t then x else y)=z->ycb P (.code (.cond c x y) f m) out:=by
    intro z hz he
    have:∃e f' m',out = .code e f' m':=by
     have:=hself _ _ hz;cases out with
     |code e f' m'=>exact⟨e,f',m',rfl⟩
     |call v m'=>exact this.elim
    obtain⟨e,f',m',rfl⟩:=this;refine yda.task fun hw=>?_;obtain⟨e1,f2,m2,heq,hs1⟩:=ydc hself hz hw;cases heq
    refine⟨hs1.1,fun φ M w a r hn hR hs hf hfr=>wpIn_cond (t:=t) ?_ (by rw[he];exact hs1.2 φ M w a r hn hR hs hf hfr)⟩
    exact((yjj (fun t v _ ht=>hf.get t v ht) hv).bool_iff t).2 rfl
   cases t with
   |true=>exact key x h2 rfl
   |false=>exact key y h2 rfl
  .cases h2
 .rename_i id b
  obtain⟨o1,h1,h2⟩:=yg h;unfold endBlock at h2;split at h2
  .rename_i i f1 m1
   rw[ybe]at h2;split at h2
   .rename_i hi
    have hi:=zG hi;subst hi;cases h2
    refine yda.task fun hw=>?_;obtain⟨e1,f2,m2,heq,hs1⟩:=ydc hself h1 hw;cases heq
    refine⟨hs1.1,fun φ M w a r hn hR hs hf hfr=>wpIn_block (wpIn_mono (hs1.2 φ M w a r hn hR hs hf hfr) ?_)⟩;rintro e' a' w' ⟨rfl,hp⟩;simp only[Exit.inBlock,if_true];exact⟨rfl,hp⟩
   .rename_i hi
    cases h2
    refine yda.task fun hw=>?_;obtain⟨e1,f2,m2,heq,hs1⟩:=ydc hself h1 hw;cases heq
    refine⟨hs1.1,fun φ M w a r hn hR hs hf hfr=>wpIn_block (wpIn_mono (hs1.2 φ M w a r hn hR hs hf hfr) ?_)⟩;rintro e' a' w' ⟨rfl,hp⟩;have hne:i≠id:=fun q=>hi (by rw[q];exact zN _)
    simp only[Exit.inBlock,if_neg hne];exact⟨rfl,hp⟩
  .rename_i hne
   cases h2
   have:∃e f' m',out=Out.code e f' m':=by
    have:=hself _ _ h1;cases out with
    |code e f' m'=>exact⟨e,f',m',rfl⟩
    |call v m'=>exact this.elim
   obtain⟨e,f',m',rfl⟩:=this;refine yda.task fun hw=>?_;obtain⟨e1,f2,m2,heq,hs1⟩:=ydc hself h1 hw;cases heq
   refine⟨hs1.1,fun φ M w a r hn hR hs hf hfr=>wpIn_block (wpIn_mono (hs1.2 φ M w a r hn hR hs hf hfr) ?_)⟩;intro e' a' w' hp;have he:=hp.1;subst he;cases e' with
   |exit i=>exact absurd rfl (hne i f' m')
   |_=>exact hp
 .rename_i b
  by_cases hw:Wf m
  .have hall:=fun rr=>yqu (rr:=rr) hself _ f m out h hw;obtain⟨e,f',m',rfl,hg,_⟩:=hall none;refine yda.task fun _=>⟨hg,fun φ M w a r hn hR hs hf hfr=>?_⟩;obtain⟨e2,f2,m2,he,_,hr⟩:=hall r;cases he
   exact wpIn_loop_rounds _ (hr φ M w a _ hn hR hs hf hfr fun a' w' φ' M' hgd hf' hd=>⟨rfl,φ',M',hgd,hf',hd⟩)
  .cases out with
   |code e f' m'=>exact fun q=>absurd q hw
   | call v m' =>
     exfalso
     have:∀n f m v m',evLoop self b n f m≠some (.call v m'):=by
      intro n
      induction n with
      |zero=>intro f m v m' q;cases q
      | succ n ih =>
        intro f m v m' q;rcases ysy q with⟨f1,m1,_,q2⟩|⟨q1,_⟩
        .exact ih _ _ _ _ q2
        .exact hself _ _ q1
     exact this _ _ _ _ _ h
 .rename_i id;cases h;exact ysu fun r Q a w hq=>wpIn_exit hq
 .cases h;exact ysu fun r Q a w hq=>wpIn_ret hq
 .rename_i id ops d
  unfold regionStep at h;cases d with
  | false =>
    change ob (evOps P self ops.toList ops.toList f m) endRegion=some out at h
    obtain⟨x,h1,h2⟩:=yg h;cases h2
    refine yda.task fun hw=>?_;have hall:=fun rr=>yml (rr:=rr) hself (ops:=ops) ops.toList f m x h1 hw;exact⟨(hall none).1,fun φ M w a r _ hR hs hf hfr=>wpIn_region_list ((hall r).2 φ M w a _ hR hs hf hfr fun a' w' φ' M' hgd hf' hd=>⟨rfl,φ',M',hgd,hf',Df.same hd⟩)⟩
  | true =>
    change drawStep P self ops.toList (ancs ops.toList []).reverse f m=some out at h
    unfold drawStep at h;obtain⟨hsl,h1⟩:=ybd h;obtain⟨x,h2,h3⟩:=yg h1;cases h3
    refine yda.task fun hw=>?_;have hall:=fun rr=>ybqm (rr:=rr) hself hmix hsl h2 hw;exact⟨(hall none).1,fun φ M w a r _ hR hs hf hfr=>(hall r).2 id φ M w a _ hR hs hf hfr fun a' w' φ' M' hgd hf' hd=>⟨rfl,φ',M',hgd,hf',Df.same hd⟩⟩
 .rename_i g ps assign body
  obtain⟨v,hv,h2⟩:=yg h;exact ybhm hlk hself hv h2
 .cases h
theorem ybfu(hmix:P.follows .mixedOrders=true)(hn:ypr P)(hH:HooksOk P H)(hself:yex P self):yex P (evStep P self H):=by
 intro t out h;cases t with
 |code c f m=>exact yvr hmix hH.links hself h
 | call g args m =>
   change callStep P self H g args m=some out at h
   unfold callStep at h;cases hff:findFact g args m H.facts with
   | some o1 =>
     rw[hff]at h;cases h
     exact yqf hH.facts hff
   |none =>
   rw[hff]at h
   change callStep1 P self H g args m=some out at h
   unfold callStep1 at h;rw[ybe]at h;split at h
   .rename_i hc;exact hH.catch_ g (yrz hc) self hself args m out h
   .rw[ybe]at h;split at h
    .rename_i hc;exact hH.indexByte g (yrz hc) args m out h
    .rw[ybe]at h;split at h
     .rename_i hc;exact hH.symm g (yrz hc) args m out h
     .obtain⟨fn,hg,h2⟩:=yg h;exact yzz hn hself hg h2
theorem yban(hmix:P.follows .mixedOrders=true)(hn:ypr P)(hH:HooksOk P H):∀n,yex P (ev P H n)
 |0=>fun t out h=>by cases h
 |n+1=>ybfu hmix hn hH (yban hmix hn hH n)
theorem wf0:Wf mem0:=fun i b h=>by cases h
theorem yckd(hmix:P.follows .mixedOrders=true)(hn:ypr P)(hH:HooksOk P H){n:Nat}{g:FuncId}{args:List Value}{v:Value}{m':Mem}(h:ev P H n (.call g args mem0)=some (.call v m'))(ha:args.all atomA=true)(hg:∃fn c,P.funcs[g]?=some fn/\fn.body=some c)(w:World)(hG:GlW w) :
 Calls P g args.toArray w fun e w'=>∃v' φ M,e = .returned v'/\VR φ v v'/\Rel φ M w'/\Sub m' M/\Below w.heap.size w w':=by
 have hs:=(yban hmix hn hH n _ _ h wf0).2 (fun _=>none) (fun _=>none) w args ⟨⟨fun i b hb=>(by cases hb),fun i j x y li lj _ hx=>(by cases hx)⟩,fun x hx=>⟨hG x hx,fun⟨i,b,l,h1,_⟩=>by cases h1⟩⟩ (fun i b hb=>by cases hb) (VRL.atomA ha) (fun _ _ _=>rfl)
 obtain⟨fn,c,h1,h2⟩:=hg;rcases hs with⟨_,hc⟩|⟨v',w',hrun,_⟩
 .refine hc.mono ?_;rintro e w' ⟨v',rfl,φ',M',hgd,hv⟩;refine⟨v',φ',M',rfl,hv,hgd.rel,hgd.sub,hgd.wg.os,hgd.wg.tape,hgd.wg.output,hgd.wg.size,fun k hk=>hgd.wg.keep k hk ?_⟩;rintro⟨i,b,l,hb,_⟩;cases hb
 .rw[ybx hn h1 h2]at hrun;cases hrun
def outV:Option Out->Option Value
 |some (.call v _)=>some v
 |_=>none
theorem ybbi(hmix:P.follows .mixedOrders=true)(hn:ypr P)(hH:HooksOk P H){n:Nat}{g:FuncId}{args:List Value}{v:Value}(h:outV (ev P H n (.call g args mem0))=some v)(ha:args.all atomA=true)(hva:atomA v=true)(hg:∃fn c,P.funcs[g]?=some fn/\fn.body=some c)(w:World)(hG:GlW w) :
 Calls P g args.toArray w fun e w'=>e = .returned v/\Below w.heap.size w w':=by
 unfold outV at h;split at h
 .rename_i v' m' he
  cases h
  refine(yckd hmix hn hH he ha hg w hG).mono ?_;rintro e w' ⟨v',φ,M,rfl,hv,_,_,hb⟩;rw[hv.eq_atomA hva];exact⟨rfl,hb⟩
 .cases h
end
end Ev
end
section
namespace Sh
noncomputable section
open Go Ev
abbrev Nm:=Nat×Nat
inductive SV where
 |i (k:IntKind) (n:Int)
 |b (x:Bool)
 |a (v:Value)
 |sl (z n:Nat) (g:Nat->List SV)
 |rf (c:List SV)
 |ag (c:List SV)
 |tp (c:List SV)
 |pt (β:Nm) (i j:Nat)
 |os (β:Nm) (o n:Nat) (ap:Bool)
 |fn (g:FuncId) (f c:List SV)
 |ex (Q:(Nat->Option ABlk)->Value->Prop) (v:SV)
 |mr (β:Nm)
 |bad
structure OB where
 e:TypeId
 bx:Bool
 z:Nat
 n:Nat
 g:Nat->List SV
def mapE(e:Nat):Bool:=decide (1000000000<=e)
inductive Fam where
 |one (b:Option OB)
 |many (g:Nat->Option OB)
def Fam.at:Fam->Nat->Option OB
 |.one b,i=>if i=0 then b else none
 |.many g,i=>g i
abbrev Own:=List (Nat×Fam)
structure SS where
 f:List (Nat×SV)
 o:Own
def look{α:Type}(l:List (Nat×α))(t:Nat):Option α:=match l with
 |[]=>none
 |(k,v)::l=>if k=t then some v else look l t
def lookO(l:Own)(β:Nm):Option OB:=match look l β.1 with
 |some F=>F.at β.2
 |none=>none
def yqs(F:Option Fam)(i:Nat)(b:Option OB):Fam:=match F with
 |some (.many g)=>.many (fun j=>if j=i then b else g j)
 |_=>.one b
def SS.put(s:SS)(d:Option Nat)(v:SV):SS:=match d with
 |none=>s
 |some t=>⟨(t,v)::s.f,s.o⟩
def SS.own(s:SS)(β:Nm)(b:Option OB):SS:=⟨s.f,(β.1,yqs (look s.o β.1) β.2 b)::s.o⟩
def ofV:Value->SV
 |.int k n=>.i k n
 |.bool x=>.b x
 |v=>.a v
def yblx:Value->Option SV
 |.int k n=>some (.i k n)
 |.bool x=>some (.b x)
 |.agg cs=>if cs.toList.all simple then some (.ag (cs.toList.map ofV))else none
 |v=>if simple v then some (.a v)else none
def SS.get(s:SS):Operand->Option SV
 |.tmp t=>look s.f t
 |.const v=>yblx v
 |.global _=>none
 |.func g=>some (.fn g [] [])
def SS.gets(s:SS):List Operand->Option (List SV)
 |[]=>some []
 | x::l=>match s.get x,s.gets l with
   |some v,some vs=>some (v::vs)
   |_,_=>none
def SS.pget(s:SS)(x:Operand):Option SV:=match s.get x with
 |some (.ex _ v)=>some v
 |r=>r
inductive SOp where
 |mv (x:Operand)
 |pick (c a b:Operand)
 |alloc (e:TypeId) (n:Nat) (z:List SV)
 |box (e:TypeId) (x:Operand)
 |build (z:List SV) (ps:List (Nat×Nat×Operand))
 |bslice (e z n:Nat) (zs:List SV) (ps:List (Nat×Nat×Operand))
 |load (ag:Bool) (n:Nat) (x:Operand)
 |store (n:Nat) (x y:Operand)
 |nilck (x:Operand)
 |faddr (o n:Nat) (x:Operand)
 |field (ag:Bool) (o n:Nat) (x:Operand)
 |idx (z:Nat) (x k:Operand)
 |idxA (n z:Nat) (x k:Operand)
 |extract (x:Operand) (k:Nat)
 |mkfn (g:FuncId) (a b:List Operand)
 |mk (e z by_:Nat) (zs:List SV) (l c:Operand)
 |cut (z:Nat) (x:Operand) (lo hi:Option Operand)
 |cutA (n z:Nat) (x:Operand) (lo hi:Option Operand)
 |len (x:Operand)
 |app (e z by_:Nat) (s x:Operand)
 |mm (mx:Bool) (x y:Operand)
 |bin (op:BinOp) (x y:Operand)
 |wsub (x y:Operand)
 |wadd (x y:Operand)
 |beq (ne:Bool) (x y:Operand)
 |seq (ne:Bool) (ks:List Bool) (x y:Operand)
 |stri (l:List Nat) (k:Operand)
 |un (op:UnOp) (x:Operand)
 |conv (k:IntKind) (x:Operand)
 |mkmap (kd:Nat)
 |mget (kd:Nat) (x k:Operand)
 |mset (kd:Nat) (x k y:Operand)
 |call (f:Operand) (xs:List Operand)
 |no
structure SOper where
 op:SOp
 dst:Option Nat
 g:Option (Nat×Bool)
 an:Nat
inductive SC where
 |skip
 |seq (a b:SC)
 |cond (c:Operand) (a b:SC)
 |block (id:Nat) (b:SC)
 |loop (b:SC)
 |exit (id:Nat)
 |ret
 |reg (d:Bool) (ops:List SOper)
 |range (g:Operand) (ps:List Nat) (a b:SC)
 |no
structure SRec where
 rd:List Nm
 wr:List Nm
 nw:List Nm
 fz:Bool
 cl:Bool
 gr:Bool
 mu:Bool
def SRec.no:SRec:=⟨[],[],[],false,false,false,false⟩
def SRec.top:SRec:=⟨[],[],[],true,true,true,true⟩
structure XR where
 c:Prop
 r:SRec
 v:SV
 s:SS
def part(ag:Bool)(o n:Nat)(l:List SV):Option SV :=
 if o+n<=l.length then(if ag then some (.ag ((l.drop o).take n))else if n=1 then(l.drop o).head? else none)else none
def SV.cells:SV->List SV
 |.ag c=>c
 |v=>[v]
def one1:SV->Bool
 |.ag _ | .tp _ | .bad=>false
 |.ex _ v=>one1 v
 |_=>true
def splice(l:List SV)(o:Nat)(new:List SV):List SV:=l.take o++new++l.drop (o+new.length)
def fill(s:SS)(l:List SV):List (Nat×Nat×Operand)->Option (List SV)
 |[]=>some l
 | (o,n,x)::ps=>match s.get x with
   |none=>none
   |some v=>if v.cells.length=n/\o+n<=l.length/\v.cells.all one1=true then fill s (splice l o v.cells) ps else none
def OB.set(b:OB)(i j:Nat)(l:List SV):OB :=
 ⟨b.e,b.bx,b.z,b.n,if b.n=1/\b.bx=true then(let c:=splice (b.g 0) j l;fun _=>c)else fun k=>if k=i then splice (b.g i) j l else b.g k⟩
structure Row where
 c:Prop
 n:Nat
 g:Nat->List SV
 rd:List Nm
 fz:Bool
def yrb(s:SS)(z:Nat):SV->Option Row
 |.sl z' n g=>if z'=z then some ⟨True,n,g,[],true⟩else none
 | .os β o n _=>match lookO s.o β with
   |some b=>if b.z=z then some ⟨o+n<=b.n,n,fun k=>b.g (o+k),[β],false⟩else none
   |none=>none
 |.a (.slice none 0 0)=>some ⟨True,0,fun _=>[],[],false⟩
 |_=>none
def inK(k:IntKind)(n:Int):Prop:=k.min<=n/\n<=k.max
def xbin(op:BinOp):SV->SV->Option (Prop×SV)
 | .i k x,.i k' y=>match op with
   |.add=>if k=k' then some (inK k (x+y),.i k (x+y))else none
   |.sub=>if k=k' then some (inK k (x-y),.i k (x-y))else none
   |.mul=>if k=k' then some (inK k (x*y),.i k (x*y))else none
   |.quo=>if k=k' then some (y≠0/\inK k (x.tdiv y),.i k (x.tdiv y))else none
   |.rem=>if k=k' then some (y≠0,.i k (x.tmod y))else none
   |.shl=>some (0<=y/\y<k.bits,.i k (k.wrap (x*2^y.toNat)))
   |.shr=>some (0<=y/\y<k.bits,.i k (x.fdiv (2^y.toNat)))
   |.and=>if k=k' then some (True,.i k (k.wrap (zA k.bits x&&&zA k.bits y).toNat))else none
   |.or=>if k=k' then some (True,.i k (k.wrap (zA k.bits x|||zA k.bits y).toNat))else none
   |.xor=>if k=k' then some (True,.i k (k.wrap (zA k.bits x ^^^ zA k.bits y).toNat))else none
   |.andNot=>if k=k' then some (True,.i k (k.wrap (zA k.bits x &&& ~~~zA k.bits y).toNat))else none
   |.eql=>if k=k' then some (True,.b (x==y))else none
   |.neq=>if k=k' then some (True,.b (x != y))else none
   |.lss=>if k=k' then some (True,.b (decide (x<y)))else none
   |.leq=>if k=k' then some (True,.b (decide (x<=y)))else none
   |.gtr=>if k=k' then some (True,.b (decide (x>y)))else none
   |.geq=>if k=k' then some (True,.b (decide (x>=y)))else none
 |_,_=>none
def xun(op:UnOp):SV->Option (Prop×SV)
 | .i k x=>match op with
   |.neg=>if k.signed=true then some (inK k (0-x),.i k (0-x))else some (True,.i k (k.wrap (0-x)))
   |.xor=>some (True,.i k (k.wrap (zA k.bits (if k.signed then -1 else k.max) ^^^ zA k.bits x).toNat))
   |_=>none
 | .b x=>match op with
   |.not=>some (True,.b !x)
   |_=>none
 |_=>none
def ybqw(s:SS):Option (Prop×SV)->Option XR
 |some (c,v)=>some ⟨c,SRec.no,v,s⟩
 |none=>none
def yvz(s:SS)(ag:Bool)(n:Nat):SV->Option XR
 | .rf c=>match part ag 0 n c with
   |some v=>some ⟨True,⟨[],[],[],true,false,false,false⟩,v,s⟩
   |none=>none
 | .pt β i j=>match lookO s.o β with
   | some b=>if j+n<=b.z then(match part ag j n (b.g i)with
     |some v=>some ⟨i<b.n,⟨[β],[],[],false,false,false,false⟩,v,s⟩
     |none=>none)else none
   |none=>none
 |_=>none
def ybbx(s:SS)(n:Nat)(v:SV):SV->Option XR
 | .pt β i j=>match lookO s.o β with
   | some b=>if v.cells.length=n/\j+n<=b.z/\v.cells.all one1=true then
      some ⟨i<b.n,⟨[β],[β],[],false,false,false,false⟩,.tp [],s.own β (some (b.set i j v.cells))⟩else none
   |none=>none
 |_=>none
def idxX(s:SS)(n:Int)(z:Nat):SV->Option XR
 |.sl z' m g=>if z'=z then some ⟨0<=n/\n<m,SRec.no,.rf (g n.toNat),s⟩else none
 | .os β o m _=>match lookO s.o β with
   |some b=>if b.z=z then some ⟨0<=n/\n<m,SRec.no,.pt β (o+n.toNat) 0,s⟩else none
   |none=>none
 |_=>none
def natX(s:SS)(d:Nat):Option Operand->Option (Int)
 |none=>some d
 | some x=>match s.get x with
   |some (.i _ n)=>some n
   |_=>none
def eqL:List Bool->List SV->List SV->Option Bool
 |[],[],[]=>some true
 |false::ks,.i k n::l,.i k' m::l'=>if k=k' then(eqL ks l l').map (decide (n=m) && ·)else none
 |true::ks,.b x::l,.b y::l'=>(eqL ks l l').map ((x==y) && ·)
 |_,_,_=>none
def ylo(s:SS)(e d:Nat):Bool:=(look s.o d).isNone&&decide (e<1000000000)
def mkey(a b:Int):Nat:=a.toNat*4294967296+b.toNat
def ylp(kd:Nat):SV:=if kd=0 then .b false else .i .i64 0
def mval(kd:Nat):SV->Bool
 |.b _=>kd==0
 |.i .i64 _=>kd==1
 |_=>false
def xOp (s:SS)(d:Option Nat):SOp->Option XR
 | .mv x=>match s.get x with
   |some v=>some ⟨True,SRec.no,v,s⟩
   |none=>none
 | .pick c a b=>match s.get c with
   | some (.b t)=>(match s.get (if t then a else b)with
     |some v=>some ⟨True,SRec.no,v,s⟩
     |none=>none)
   |_=>none
 | .alloc e n z=>match d with
   |some β=>if ylo s e β then some ⟨True,⟨[],[],[(β,0)],false,false,false,false⟩,.pt (β,0) 0 0,s.own (β,0) (some ⟨e,true,z.length,n,fun _=>z⟩)⟩else none
   |none=>none
 | .box e x=>match d,s.get x with
   |some β,some v=>if ylo s e β/\v.cells.all one1=true then some ⟨True,⟨[],[],[(β,0)],false,false,false,false⟩,.pt (β,0) 0 0,s.own (β,0) (some ⟨e,true,v.cells.length,1,fun _=>v.cells⟩)⟩else none
   |_,_=>none
 | .build z ps=>match fill s z ps with
   |some l=>some ⟨True,SRec.no,.ag l,s⟩
   |none=>none
 | .bslice e z n zs ps=>match d,fill s zs ps with
   |some β,some l=>if ylo s e β then some ⟨True,⟨[],[],[(β,0)],false,false,false,false⟩,.os (β,0) 0 n true,s.own (β,0) (some ⟨e,false,z,n,fun k=>(l.drop (k*z)).take z⟩)⟩else none
   |_,_=>none
 | .load ag n x=>match s.get x with
   |some p=>yvz s ag n p
   |none=>none
 | .store n x y=>match s.get x,s.get y with
   |some p,some v=>ybbx s n v p
   |_,_=>none
 | .nilck x=>match s.get x with
   |some (.rf c)=>some ⟨True,SRec.no,.rf c,s⟩
   |some (.pt β i j)=>some ⟨True,SRec.no,.pt β i j,s⟩
   |_=>none
 | .faddr o n x=>match s.get x with
   |some (.rf c)=>if o+n<=c.length then some ⟨True,SRec.no,.rf ((c.drop o).take n),s⟩else none
   |some (.pt β i j)=>some ⟨True,SRec.no,.pt β i (j+o),s⟩
   |_=>none
 | .field ag o n x=>match s.get x with
   | some (.ag c)=>(match part ag o n c with
     |some v=>some ⟨True,SRec.no,v,s⟩
     |none=>none)
   |_=>none
 | .idx z x k=>match s.pget x,s.get k with
   |some p,some (.i _ n)=>idxX s n z p
   |_,_=>none
 | .idxA m z x k=>match s.get x,s.get k with
   | some (.pt β i j),some (.i _ n)=>(match lookO s.o β with
     |some b=>if b.z=z then some ⟨0<=n/\n<m,SRec.no,.pt β (i+n.toNat) j,s⟩else some ⟨0<=n/\n<m,SRec.no,.pt β i (j+n.toNat*z),s⟩
     |none=>none)
   |some (.rf c),some (.i _ n)=>some ⟨0<=n/\n<m/\n.toNat*z+z<=c.length,SRec.no,.rf ((c.drop (n.toNat*z)).take z),s⟩
   |_,_=>none
 | .extract x k=>match s.get x with
   | some (.tp c)=>(match c[k]? with
     |some v=>some ⟨True,SRec.no,v,s⟩
     |none=>none)
   |_=>none
 | .mkfn g a b=>match s.gets a,s.gets b with
   |some a,some b=>some ⟨True,SRec.no,.fn g a b,s⟩
   |_,_=>none
 | .mk e z by_ zs l c=>match d,s.get l,s.get c with
   |some β,some (.i _ n),some (.i _ m)=>if ylo s e β then some ⟨n=m/\0<=n/\by_*n.toNat<=1000000/\n.toNat<=1000000,⟨[],[],[(β,0)],false,false,false,false⟩,.os (β,0) 0 n.toNat true,s.own (β,0) (some ⟨e,false,z,n.toNat,fun _=>zs⟩)⟩else none
   |_,_,_=>none
 | .cut z x lo hi=>match s.pget x with
   | some (.sl z' m g)=>(match natX s m hi,natX s 0 lo with
     |some h,some l=>if z'=z then some ⟨0<=l/\l<=h/\h<=m/\0<m,⟨[],[],[],true,false,false,false⟩,.sl z (h.toNat-l.toNat) (fun k=>g (l.toNat+k)),s⟩else none
     |_,_=>none)
   | some (.os β o m c)=>(match natX s m hi,natX s 0 lo,lookO s.o β with
     |some h,some l,some b=>if b.z=z/\b.bx=false then some ⟨0<=l/\l<=h/\h<=m,⟨[β],[],[],false,false,false,false⟩,.os β (o+l.toNat) (h.toNat-l.toNat) (c&&hi.isNone),s⟩else none
     |_,_,_=>none)
   |_=>none
 | .cutA m z x lo hi=>match s.get x with
   | some (.pt β 0 0)=>(match natX s m hi,natX s 0 lo,lookO s.o β with
     |some h,some l,some b=>if b.n=m/\b.z=z/\b.bx=true/\0<m then some ⟨0<=l/\l<=h/\h<=m/\m<=1000000,⟨[β],[],[],false,false,false,false⟩,.os β l.toNat (h.toNat-l.toNat) false,s⟩else none
     |_,_,_=>none)
   |_=>none
 | .len x=>match s.pget x with
   |some (.sl _ n _)=>some ⟨True,SRec.no,.i .i64 n,s⟩
   |some (.os _ _ n _)=>some ⟨True,SRec.no,.i .i64 n,s⟩
   |some (.a (.slice none 0 0))=>some ⟨True,SRec.no,.i .i64 0,s⟩
   |_=>none
 | .app e z by_ x y=>match d,s.get x,s.pget y with
   | some β,some x,some y=>(match yrb s z y with
     | some q=>if ylo s e β then(if q.n=0 then(match x with
       |.a (.slice none 0 0)=>some ⟨q.c,SRec.no,.a (.slice none 0 0),s⟩
       |.os γ p n true=>some ⟨q.c/\n*by_<=100000000/\n<=100000000,SRec.no,.os γ p n true,s⟩
       |_=>none)else(match x with
       | .a (.slice none 0 0)=>some ⟨q.c/\0<q.n/\q.n*by_<=100000000/\q.n<=100000000,⟨q.rd,[],[(β,0)],q.fz,false,false,false⟩,.os (β,0) 0 q.n true,
          s.own (β,0) (some ⟨e,false,z,q.n,q.g⟩)⟩
       | .os γ p n true=>(match lookO s.o γ with
         | some b=>if b.e=e/\b.z=z/\b.bx=false then some ⟨q.c/\p+n<=b.n/\0<q.n/\(n+q.n)*by_<=100000000/\n+q.n<=100000000,⟨γ::q.rd,[γ],[(β,0)],q.fz,false,false,false⟩,.os (β,0) 0 (n+q.n) true,
           (s.own γ none).own (β,0) (some ⟨e,false,z,n+q.n,fun k=>if k<n then b.g (p+k)else q.g (k-n)⟩)⟩else none
         |none=>none)
       |_=>none))else none
     |none=>none)
   |_,_,_=>none
 | .mm mx x y=>match s.get x,s.get y with
   |some (.i k n),some (.i k' m)=>if k=k' then some ⟨True,SRec.no,.i k (if mx then max n m else min n m),s⟩else none
   |_,_=>none
 | .bin op x y=>match s.get x,s.get y with
   |some v,some w=>ybqw s (xbin op v w)
   |_,_=>none
 | .wsub x y=>match s.get x,s.get y with
   |some (.i k n),some (.i k' m)=>if k=k' then some ⟨True,SRec.no,.i k (k.wrap (n-m)),s⟩else none
   |_,_=>none
 | .wadd x y=>match s.get x,s.get y with
   |some (.i k n),some (.i k' m)=>if k=k' then some ⟨True,SRec.no,.i k (k.wrap (n+m)),s⟩else none
   |_,_=>none
 | .beq ne x y=>match s.get x,s.get y with
   |some (.b a),some (.b b)=>some ⟨True,SRec.no,.b (if ne then a != b else a==b),s⟩
   |_,_=>none
 | .seq ne ks x y=>match s.get x,s.get y with
   | some (.ag l),some (.ag l')=>(match eqL ks l l' with
     |some q=>some ⟨True,SRec.no,.b (if ne then !q else q),s⟩
     |none=>none)
   |_,_=>none
 | .stri l k=>match s.get k with
   |some (.i _ n)=>some ⟨0<=n/\n<l.length,SRec.no,.i .u8 ((l.getD n.toNat 0:Nat):Int),s⟩
   |_=>none
 | .un op x=>match s.get x with
   |some v=>ybqw s (xun op v)
   |_=>none
 | .conv k x=>match s.get x with
   |some (.i _ n)=>some ⟨True,SRec.no,.i k (k.wrap n),s⟩
   |_=>none
 | .mkmap kd=>match d with
   |some β=>if ylo s 0 β then some ⟨True,⟨[],[],[(β,0)],false,false,false,false⟩,.mr (β,0),s.own (β,0) (some ⟨CU,true,kd,0,fun _=>[ylp kd]⟩)⟩else none
   |none=>none
 | .mget kd x k=>match s.get x,s.get k with
   | some (.mr β),some (.ag [.i .i64 a,.i .u32 b])=>(match lookO s.o β with
     |some ob=>if ob.e=CU/\ob.z=kd then some ⟨0<=a/\0<=b/\b<4294967296,⟨[β],[],[],false,false,false,false⟩,(ob.g (mkey a b)).headD .bad,s⟩else none
     |none=>none)
   |_,_=>none
 | .mset kd x k y=>match s.get x,s.get k,s.get y with
   | some (.mr β),some (.ag [.i .i64 a,.i .u32 b]),some v=>(match lookO s.o β with
     |some ob=>if ob.e=CU/\ob.z=kd/\mval kd v=true then some ⟨0<=a/\0<=b/\b<4294967296,⟨[β],[β],[],false,false,false,false⟩,.tp [],s.own β (some ⟨CU,true,kd,0,fun c=>if c=mkey a b then[v]else ob.g c⟩)⟩else none
     |none=>none)
   |_,_,_=>none
 |.call _ _=>none
 |.no=>none
def slots:List SV->Nat->List (Nat×SV)
 |[],_=>[]
 |v::l,i=>(i,v)::slots l (i+1)
def view(o:Own):Nat->SV->SV
 |0,_=>.bad
 | n + 1,v=>match v with
   | .pt β i j=>(match lookO o β with
     |some b=>.rf ((((b.g i).drop j)).map (view o n))
     |none=>.bad)
   | .os β p m _=>(match lookO o β with
     |some b=>.sl b.z m (fun k=>(b.g (p+k)).map (view o n))
     |none=>.bad)
   |.mr _=>.bad
   |.ag c=>.ag (c.map (view o n))
   |.tp c=>.tp (c.map (view o n))
   |.fn g a b=>.fn g (a.map (view o n)) (b.map (view o n))
   |v=>v
def allP(p:SV->Prop):List SV->Prop
 |[]=>True
 |x::l=>p x/\allP p l
def vok(o:Own):Nat->SV->Prop
 |0,_=>False
 | n + 1,v=>match v with
   | .pt β i j=>(match lookO o β with
     |some b=>(i<b.n/\j<=b.z)/\allP (vok o n) ((b.g i).drop j)
     |none=>False)
   | .os β p m _=>(match lookO o β with
     |some b=>p+m<=b.n/\∀k,k<m->allP (vok o n) (b.g (p+k))
     |none=>False)
   |.ag c=>allP (vok o n) c
   |.tp c=>allP (vok o n) c
   |.fn _ a b=>allP (vok o n) a/\allP (vok o n) b
   |.mr _=>False
   |.bad=>False
   |_=>True
def owned:Nat->SV->Bool
 |0,_=>true
 | n+1,v=>match v with
   |.pt .. | .os .. | .mr _ | .bad=>true
   |.ag c | .tp c=>c.any (owned n)
   |.fn _ a b=>a.any (owned n)||b.any (owned n)
   |_=>false
def scalar:Nat->SV->Bool
 |0,_=>false
 | n+1,v=>match v with
   |.i .. | .b .. | .a ..=>true
   |.ag c | .tp c=>c.all (scalar n)
   |_=>false
end
end Sh
end
section
namespace Sh
open Go Ev
def Le(F G:AM):Prop:=∀i b,F i=some b->G i=some b
theorem Le.refl(F:AM):Le F F:=fun _ _ h=>h
theorem Le.trans{F G H:AM}(a:Le F G)(b:Le G H):Le F H:=fun i x h=>b i x (a i x h)
abbrev Om:=Nm->Option (Option (Nat×Nat))
def om0:Om:=fun _=>none
def Om.le(ω ψ:Om):Prop:=∀β x,ω β=some x->ψ β=some x
theorem yqo(ω:Om):Om.le om0 ω:=fun _ _ h=>by cases h
theorem Om.le_refl(ω:Om):Om.le ω ω:=fun _ _ h=>h
def Z0(u:Value):Prop:=u = .slice none 0 0\/∃b o c,u = .slice (some ⟨b,o,none⟩) 0 c
mutual
inductive RV (F:AM):Om->SV->Value->Prop
 |i {ω k n}:RV F ω (.i k n) (.int k n)
 |b {ω x}:RV F ω (.b x) (.bool x)
 |a {ω v} (h:simple v=true):RV F ω (.a v) v
 |sl0 {ω z g u} (h:Z0 u):RV F ω (.sl z 0 g) u
 | sl {ω z n g bk o c T N e zz} {L:Nat->List Value}(hF:F bk=some (.cells T N e zz)) (hz:zz=z\/zz=0) (hN:o+n*z<=N) (hl:∀k,k<n->(L k).length=z)
    (ht:∀k,k<n->∀j,j<z->T.get (o+k*z+j)=(L k)[j]?) (hc:∀k,k<n->RVL F om0 (g k) (L k)) (h1:∀k,k<n->(g k).all one1=true):RV F ω (.sl z n g) (.slice (some ⟨bk,o,none⟩) n c)
 |rf {ω c bk o T N e zz} {L:List Value}(hF:F bk=some (.cells T N e zz)) (hN:o+L.length<=N) (ht:∀j,j<L.length->T.get (o+j)=L[j]?) (hc:RVL F om0 c L) (h1:c.all one1=true):RV F ω (.rf c) (.pointer (some ⟨bk,o,none⟩))
 |ag {ω c} {L:List Value}(h:RVL F ω c L):RV F ω (.ag c) (.agg L.toArray)
 |tp {ω c} {L:List Value}(h:RVL F ω c L):RV F ω (.tp c) (.tuple L.toArray)
 |fn {ω g a b} {A B:List Value}(ha:RVL F ω a A) (hb:RVL F ω b B):RV F ω (.fn g a b) (.func (.func g) A.toArray B.toArray)
 |pt {ω β i j k z} (h:ω β=some (some (k,z))):RV F ω (.pt β i j) (.pointer (some ⟨k,i*z+j,none⟩))
 |os {ω β o n ap c k z} (h:ω β=some (some (k,z))) (hb:ap=true->c=CU\/(c=n/\n<CU)):RV F ω (.os β o n ap) (.slice (some ⟨k,o*z,none⟩) n c)
 |ex {ω Q v u} (hQ:Q F u) (hm:∀A B w,Le A B->Q A w->Q B w) (h:RV F om0 v u):RV F ω (.ex Q v) u
 |os0 {ω β ap} (h:ω β=some none):RV F ω (.os β 0 0 ap) (.slice none 0 0)
 |mr {ω β k z} (h:ω β=some (some (k,z))):RV F ω (.mr β) (.map (some k))
inductive RVL (F:AM):Om->List SV->List Value->Prop
 |nil {ω}:RVL F ω [] []
 |cons {ω v u l L} (h:RV F ω v u) (hl:RVL F ω l L):RVL F ω (v::l) (u::L)
end
section
variable {F G:AM}{ω ψ:Om}
mutual
theorem RV.mono(hF:Le F G):∀{ω ψ:Om},ω.le ψ->∀{v:SV}{u:Value},RV F ω v u->RV G ψ v u
 |_,_,_,_,_,.i=>.i
 |_,_,_,_,_,.b=>.b
 |_,_,_,_,_,.a h=>.a h
 |_,_,_,_,_,.sl0 h=>.sl0 h
 |_,_,_,_,_,.sl h1 hz h2 h3 h4 h5 h6=>.sl (hF _ _ h1) hz h2 h3 h4 (fun k hk=>RVL.mono hF (Om.le_refl _) (h5 k hk)) h6
 |_,_,_,_,_,.rf h1 h2 h3 h4 h5=>.rf (hF _ _ h1) h2 h3 (RVL.mono hF (Om.le_refl _) h4) h5
 |_,_,ho,_,_,.ag h=>.ag (RVL.mono hF ho h)
 |_,_,ho,_,_,.tp h=>.tp (RVL.mono hF ho h)
 |_,_,ho,_,_,.fn h1 h2=>.fn (RVL.mono hF ho h1) (RVL.mono hF ho h2)
 |_,_,ho,_,_,.pt h=>.pt (ho _ _ h)
 |_,_,ho,_,_,.os h hb=>.os (ho _ _ h) hb
 |_,_,ho,_,_,.os0 h=>.os0 (ho _ _ h)
 |_,_,ho,_,_,.mr h=>.mr (ho _ _ h)
 |_,_,_,_,_,.ex h1 h2 h3=>.ex (h2 _ _ _ hF h1) h2 (RV.mono hF (Om.le_refl _) h3)
theorem RVL.mono(hF:Le F G):∀{ω ψ:Om},ω.le ψ->∀{v:List SV}{u:List Value},RVL F ω v u->RVL G ψ v u
 |_,_,_,_,_,.nil=>.nil
 |_,_,ho,_,_,.cons h hl=>.cons (RV.mono hF ho h) (RVL.mono hF ho hl)
end
theorem RVL.length:∀{l:List SV}{L:List Value},RVL F ω l L->l.length=L.length
 |_,_,.nil=>rfl
 |_,_,.cons _ h=>by simp[RVL.length h]
theorem RVL.get:∀{l:List SV}{L:List Value},RVL F ω l L->∀{i:Nat}{v:SV},l[i]?=some v->∃u,L[i]?=some u/\RV F ω v u
 |_,_,.nil,i,v,h=>by simp at h
 |_,_,.cons a _,0,v,h=>by simp at h;subst h;exact⟨_,rfl,a⟩
 | _,_,.cons _ b,i+1,v,h=>by
   obtain⟨u,h1,h2⟩:=RVL.get b (i:=i) (by simpa using h)
   exact⟨u,by simpa using h1,h2⟩
theorem RVL.append:∀{l k:List SV}{L K:List Value},RVL F ω l L->RVL F ω k K->RVL F ω (l++k) (L++K)
 |_,_,_,_,.nil,h=>h
 |_,_,_,_,.cons a b,h=>.cons a (b.append h)
theorem RVL.drop:∀{l:List SV}{L:List Value},RVL F ω l L->∀(n:Nat),RVL F ω (l.drop n) (L.drop n)
 |_,_,h,0=>by simpa using h
 |_,_,.nil,n+1=>by simpa using RVL.nil
 |_,_,.cons _ b,n+1=>by simpa using b.drop n
theorem RVL.take:∀{l:List SV}{L:List Value},RVL F ω l L->∀(n:Nat),RVL F ω (l.take n) (L.take n)
 |_,_,_,0=>by simpa using RVL.nil
 |_,_,.nil,n+1=>by simpa using RVL.nil
 |_,_,.cons a b,n+1=>by simpa using RVL.cons a (b.take n)
theorem ybwp{v:Value}(h:simple v=true):RV F ω (ofV v) v:=by
 unfold ofV;split
 .exact .i
 .exact .b
 .exact .a h
theorem ypy:∀{l:List Value},l.all simple=true->RVL F ω (l.map ofV) l
 |[],_=>.nil
 | v::l,h=>by
   simp only[List.all_cons,zC]at h;exact .cons (ybwp h.1) (ypy h.2)
theorem ybfw{v:Value}{x:SV}(h:yblx v=some x):constA v=some v/\RV F ω x v:=by
 unfold yblx at h;split at h
 .cases h;exact⟨rfl,.i⟩
 .cases h;exact⟨rfl,.b⟩
 .rename_i cs
  split at h
  .rename_i hs
   cases h
   refine⟨?_,?_⟩
   .unfold constA;rw[ybe,if_pos (show atomA (.agg cs)=true from hs)]
   .have:=RV.ag (F:=F) (ω:=ω) (ypy hs)
    simpa using this
  .cases h
 .split at h
  .rename_i hs
   cases h
   refine⟨?_,.a hs⟩;unfold constA;rw[ybe,if_pos];cases v<;>first|exact hs|rfl|cases hs
  .cases h
end
end Sh
end
section
namespace Sh
noncomputable section
open Go Ev
def SRec.pure(r:SRec):Bool:=r.rd.isEmpty&&r.wr.isEmpty&&r.nw.isEmpty && !r.fz && !r.cl && !r.gr && !r.mu
def nmem(l:List Nm)(x:Nm):Bool:=l.any fun y=>decide (y.1=x.1)&&decide (y.2=x.2)
def yny(a b:SRec):Bool :=
 (a.mu && !b.pure)||(b.mu && !a.pure) ||
 ((a.wr.any fun x=>nmem b.rd x||nmem b.wr x||nmem b.nw x)||(b.wr.any fun x=>nmem a.rd x||nmem a.wr x||nmem a.nw x) ||
 (a.rd.any fun x=>nmem b.nw x)||(b.rd.any fun x=>nmem a.nw x) ||
 (a.cl&&(!b.wr.isEmpty || !b.nw.isEmpty||b.gr))||(b.cl&&(!a.wr.isEmpty || !a.nw.isEmpty||a.gr)))
def clash(a b:SRec):Bool :=
 (a.mu && !b.pure)||(b.mu && !a.pure) ||
 ((a.wr.any fun x=>nmem b.rd x||nmem b.wr x||nmem b.nw x)||(b.wr.any fun x=>nmem a.rd x||nmem a.wr x||nmem a.nw x) ||
 (a.rd.any fun x=>nmem b.nw x)||(b.rd.any fun x=>nmem a.nw x) ||
 (a.cl&&(!b.wr.isEmpty || !b.nw.isEmpty||b.gr))||(b.cl&&(!a.wr.isEmpty || !a.nw.isEmpty||a.gr))||(b.gr&&a.fz))
theorem ybac{a b:SRec}(h:clash a b=false):yny a b=false/\(b.gr=false\/a.fz=false):=by
 unfold clash at h;unfold yny;simp only[Bool.or_eq_false_iff,Bool.and_eq_false_iff]at h ⊢;exact⟨⟨h.1,h.2.1⟩,h.2.2⟩
def fits(d:Bool)(an:Nat)(r:SRec)(rs:List (Nat×SRec)):Bool:=!d||rs.all fun q=>zL an q.1 || !(clash r q.2)
def ybne(r:SRec):Bool:=!r.mu&&r.wr.isEmpty&&r.nw.isEmpty && !r.cl && !r.gr
def ycjz(d:Bool)(an:Nat)(old:Bool)(r:SRec)(rs:List (Nat×SRec)):Bool:=match old with
 |false=>fits d an r rs
 |true=>!d||rs.all fun q=>zL an q.1 || !(yny r q.2)
def ykd(rs:List (Nat×SRec))(t:Nat):Bool:=rs.any fun q=>decide (q.1=1000+t)
def yjm(d:Bool)(dst:Option Nat)(old:Bool)(rs:List (Nat×SRec)):List (Nat×SRec):=match d,dst,old with
 |true,some t,false=>(1000+t,SRec.no)::rs
 |_,_,_=>rs
def oldV:Option SV->Bool
 |some v=>!(owned 5 v)
 |none=>false
def oldX(s:SS)(rs:List (Nat×SRec)):Operand->Bool
 |.tmp t=>!(ykd rs t)&&oldV (look s.f t)
 |_=>false
def ybqt(s:SS)(rs:List (Nat×SRec)):SOp->Bool
 |.mv x=>oldX s rs x
 |.load _ _ x=>oldX s rs x
 |.faddr _ _ x=>oldX s rs x
 |.idx _ x _=>oldX s rs x
 |.pick .. | .alloc .. | .box .. | .build .. | .bslice .. | .store .. | .nilck .. | .field .. | .idxA .. | .extract .. | .mkfn .. | .mk .. | .cut .. | .cutA .. | .len .. | .app .. | .mm .. | .bin .. | .wsub .. | .wadd .. | .beq .. | .seq .. | .stri .. | .un .. | .conv .. | .mkmap .. | .mget .. | .mset .. | .call .. | .no=>false
def dim(q:Nat×SRec):Nat×SRec:=(q.1,if q.2.pure=true then q.2 else SRec.top)
def Sim(v w:SV):Prop:=∀F ω u,RV F ω v u->RV F ω w u
def ren(h:Nm->Nm):Nat->SV->SV
 |0,v=>v
 | n+1,v=>match v with
   |.pt β i j=>.pt (h β) i j
   |.os β o k c=>.os (h β) o k c
   |.mr β=>.mr (h β)
   |.ag c=>.ag (c.map (ren h n))
   |.tp c=>.tp (c.map (ren h n))
   |.fn g a b=>.fn g (a.map (ren h n)) (b.map (ren h n))
   |v=>v
def cln(L:Nm->Bool):Nat->SV->Bool
 |0,_=>false
 | n+1,v=>match v with
   |.pt β _ _=>L β
   |.os β _ _ _=>L β
   |.mr β=>L β
   |.ag c=>c.all (cln L n)
   |.tp c=>c.all (cln L n)
   |.fn _ a b=>a.all (cln L n)&&b.all (cln L n)
   |_=>true
def ydu(fr:List Nm)(o:Own):Nat->SV->SV
 |0,v=>v
 | n + 1,v=>match v with
   | .pt β i j=>if nmem fr β=true then(match lookO o β with
     |some b=>.rf ((b.g i).drop j)
     |none=>.bad)else .pt β i j
   | .os β p m c=>if nmem fr β=true then(match lookO o β with
     |some b=>.sl b.z m (fun k=>b.g (p+k))
     |none=>.bad)else .os β p m c
   |.ag c=>.ag (c.map (ydu fr o n))
   |.tp c=>.tp (c.map (ydu fr o n))
   |.fn g a b=>.fn g (a.map (ydu fr o n)) (b.map (ydu fr o n))
   |v=>v
def pok(fr:List Nm)(o:Own):Nat->SV->Prop
 |0,_=>True
 | n + 1,v=>match v with
   | .pt β i j=>nmem fr β=true->(match lookO o β with
     |some b=>i<b.n/\j<=b.z
     |none=>False)
   | .os β p m _=>nmem fr β=true->(match lookO o β with
     |some b=>p+m<=b.n
     |none=>False)
   |.mr β=>nmem fr β=true->False
   |.ag c=>allP (pok fr o n) c
   |.tp c=>allP (pok fr o n) c
   |.fn _ a b=>allP (pok fr o n) a/\allP (pok fr o n) b
   |_=>True
def live(o:Own)(β:Nm):Bool:=(lookO o β).isSome
def lv(vir:List Nat)(o:Own)(β:Nm):Bool:=live o β && !(vir.elem β.1)
def Tel(h:Nm->Nm)(vir:List Nat)(fr:List Nm)(o t:Own)(v w:SV):Prop :=
 (pok fr o 5 v/\Sim (ydu fr o 5 v) (ren h 5 w)/\cln (lv vir t) 5 w=true)\/(v = .a (.slice none 0 0)/\∃β,w = .os β 0 0 true/\vir.elem β.1=true/\live t β=true)
def telL(h:Nm->Nm)(vir:List Nat)(fr:List Nm)(o t:Own):List SV->List SV->Prop
 |[],[]=>True
 |v::l,w::k=>Tel h vir fr o t v w/\one1 w=true/\telL h vir fr o t l k
 |_,_=>False
def yub(h:Nm->Nm)(vir:List Nat)(fr:List Nm)(t:Own)(s:SS)(p:Nat×SV):Prop:=∃v,look s.f p.1=some v/\Tel h vir fr s.o t v p.2
def ybmy(h:Nm->Nm)(vir:List Nat)(fr:List Nm)(t:Own)(s:SS)(β:Nm)(b:OB):Prop :=
 ∃c,lookO s.o (h β)=some c/\(c.e=b.e/\c.bx=b.bx/\c.z=b.z/\c.n=b.n/\nmem fr (h β)=false)/\(mapE b.e=true->∀i,c.g i=b.g i)/\∀i,i<b.n->telL h vir fr s.o t (c.g i) (b.g i)
def own1(h:Nm->Nm)(vir:List Nat)(fr:List Nm)(t:Own)(s:SS)(β:Nm)(b:OB):Prop :=
 if vir.elem β.1=true then b.n=0/\b.bx=false else ybmy h vir fr t s β b
def ymm(h:Nm->Nm)(vir:List Nat)(fr:List Nm)(t:Own)(s:SS):Nat×Fam->Prop
 |(_,.one none)=>True
 |(β,.one (some b))=>own1 h vir fr t s (β,0) b
 |(β,.many g)=>∀i b,g i=some b->own1 h vir fr t s (β,i) b
def allQ{α:Type}(p:α->Prop):List α->Prop
 |[]=>True
 |x::l=>p x/\allQ p l
def idxF(F:Fam)(p:Nat->Prop):Prop:=match F with
 |.one none=>True
 |.one (some _)=>p 0
 |.many g=>∀i,(g i).isSome=true->p i
def ydpu(h:Nm->Nm)(p q:Nat×Fam):Prop:=idxF p.2 fun i=>idxF q.2 fun j=>h (p.1,i)=h (q.1,j)->p.1=q.1/\i=j
def ybgz(h:Nm->Nm)(vir:List Nat)(o:Own):Prop:=allQ (fun p=>vir.elem p.1=true\/allQ (fun q=>vir.elem q.1=true\/ydpu h p q) o) o
def yyn(o:Own)(fr:List Nm):Prop:=allQ (fun β=>∃b,lookO o β=some b/\∀k,k<b.n->(b.g k).any (owned 5)=false) fr
structure WeakBy(h:Nm->Nm)(vir:List Nat)(fr:List Nm)(s t:SS):Prop where
 frz:yyn s.o fr
 inj:ybgz h vir t.o
 slot:allQ (yub h vir fr t.o s) t.f
 own:allQ (ymm h vir fr t.o s) t.o
def rid(ρ:List (Nat×(Nat->Nm)))(β:Nm):Nm:=match look ρ β.1 with
 |some h=>h β.2
 |none=>β
def nuF(ρ:List (Nat×Nat))(base b:Nat):Nat:=match look ρ b with
 |some c=>c
 |none=>base+b
def nu(ρ:List (Nat×Nat))(base:Nat)(β:Nm):Nm:=(nuF ρ base β.1,β.2)
def to1(ρ:List (Nat×Nat))(β:Nm):Nm:=match look ρ β.1 with
 |some c=>(c,β.2)
 |none=>β
def OB.ren(h:Nm->Nm)(b:OB):OB:=⟨b.e,b.bx,b.z,b.n,fun k=>(b.g k).map (Sh.ren h 5)⟩
def Fam.ren(h:Nm->Nm):Fam->Fam
 |.one none=>.one none
 |.one (some b)=>.one (some (b.ren h))
 | .many g=>.many fun i=>match g i with
   |some b=>some (b.ren h)
   |none=>none
def ycs(l:List (Nat×SV)):List Nat->List (Nat×SV)
 |[]=>[]
 | t::ts=>match look l t with
   |some v=>(t,v)::ycs l ts
   |none=>ycs l ts
def yck(l:Own):List Nat->Own
 |[]=>[]
 | t::ts=>match look l t with
   |some v=>(t,v)::yck l ts
   |none=>yck l ts
def okN(ρ:List (Nat×Nat))(pr:List Nm)(kb:List Nat)(β:Nm):Bool:=kb.elem β.1||pr.any fun q=>(match look ρ q.1 with
 |some c=>decide (c=β.1)
 |none=>false)&&decide (q.2=β.2)
def ydn(L:Nm->Bool)(b:OB):Prop:=∀k,k<b.n->(b.g k).all (cln L 5)=true
def yby(L:Nm->Bool)(F:Fam):Prop:=match F with
 |.one none=>True
 |.one (some b)=>ydn L b
 |.many g=>∀i b,g i=some b->ydn L b
def yhr(s:SS)(ρ:List (Nat×Nat))(base:Nat)(keep kb:List Nat)(o:Own):SS:=⟨ycs s.f keep,o.map (fun p=>(nuF ρ base p.1,p.2.ren (nu ρ base)))++yck s.o kb⟩
def difN:List Nat->Bool
 |[]=>true
 |x::l=>!(l.elem x)&&difN l
structure ItS where
 n:Nat
 el:Nat->List SV
 pr:List Nm
 own:Nat->Own->Prop
 adv:Nat->Own->Own
structure CC where
 ct:FuncId->List SV->(SV->Prop)->Prop
 cm:FuncId->List Nm->Own->List SV->(SV->Own->Prop)->Prop
 it:FuncId->List SV->ItS->Prop
 pr:List Nm
 mu:List FuncId
variable (C:CC)
def ybh(d:Bool)(rs:List (Nat×SRec))(s:SS)(i an:Nat)(dst:Option Nat)(nx:List (Nat×SRec)->SS->Prop)(sc:Bool)(r:SV):Prop :=
 fits d an ⟨[],[],[],true,true,!sc,false⟩ rs=true/\nx (yjm d dst false ((i,⟨[],[],[],true,true,!sc,false⟩)::rs)) (s.put dst r)
def ydty(d:Bool)(rs:List (Nat×SRec))(s:SS)(i an:Nat)(dst:Option Nat)(nx:List (Nat×SRec)->SS->Prop)(r:SV):Prop :=
 fits d an ⟨[],[],[],true,false,true,false⟩ rs=true/\nx (yjm d dst false ((i,⟨[],[],[],true,false,true,false⟩)::rs)) (s.put dst r)
def yiq(d:Bool)(rs:List (Nat×SRec))(s:SS)(i:Nat)(dst:Option Nat)(nx:List (Nat×SRec)->SS->Prop)(ρ:List (Nat×Nat))(base:Nat)(keep kb:List Nat)(r:SV)(o:Own):Prop :=
 (difN (o.map fun p=>nuF ρ base p.1)=true/\(o.all fun p=>!(kb.elem (nuF ρ base p.1)))=true)/\nx (yjm d dst false ((i,SRec.top)::rs.map dim)) ((yhr s ρ base keep kb o).put dst (ren (nu ρ base) 5 r))
structure Kept(pc:List Nm)(s:SS)(ρ:List (Nat×Nat))(pr:List Nm)(o:Own)(keep kb:List Nat):Prop where
 prl:allQ (fun β=>live o β=true) pr
 apart:∀p∈ρ,kb.elem p.2=false
 slot:allQ (fun p=>cln (okN ρ pr kb) 5 p.2=true) (ycs s.f keep)
 own:allQ (fun p=>yby (okN ρ pr kb) p.2) (yck s.o kb)
 pin:allQ (fun β=>okN ρ pr kb β=true) pc
def ydir(d:Bool)(an:Nat)(o:Own)(rs:List (Nat×SRec)):Bool:=fits d an SRec.top rs||(o.isEmpty&&rs.all fun p=>zL an p.1||(p.2.pure||ybne p.2))
def ycit(d:Bool)(rs:List (Nat×SRec))(s:SS)(i an:Nat)(dst:Option Nat)(nx:List (Nat×SRec)->SS->Prop)(g:FuncId)(xs:List SV):Prop :=
 ∃ (ρ:List (Nat×Nat)) (base:Nat) (keep kb:List Nat) (pr:List Nm) (o:Own) (as:List SV),
   xs.length=as.length/\WeakBy (to1 ρ) [] [] ⟨slots xs 0,s.o⟩ ⟨slots as 0,o⟩/\(∀p∈o,(look ρ p.1).isSome=true)/\ydir d an o rs=true/\Kept C.pr s ρ pr o keep kb /\
    C.cm g pr o as (yiq d rs s i dst nx ρ base keep kb)
def ybyi(d:Bool)(rs:List (Nat×SRec))(s:SS)(i an:Nat)(dst:Option Nat)(nx:List (Nat×SRec)->SS->Prop):Option SV->Option (List SV)->Prop
 | some (.fn g a b),some xs=>if C.mu.elem g=true then ycit C d rs s i an dst nx g (a++xs++b)else if (a++xs++b).any (owned 5)then
    (allP (vok s.o 5) (a++xs++b)/\C.ct g ((a++xs++b).map (view s.o 5)) fun r=>scalar 5 r=true/\ybh d rs s i an dst nx true r)\/ycit C d rs s i an dst nx g (a++xs++b)
   else if C.mu.elem 1000000000=true then C.ct g (a++xs++b) fun r=>ydty d rs s i an dst nx r
   else C.ct g (a++xs++b) fun r=>ybh d rs s i an dst nx (scalar 5 r) r
 |_,_=>False
def opO(d:Bool)(rs:List (Nat×SRec))(i an:Nat)(dst:Option Nat)(nx:List (Nat×SRec)->SS->Prop)(old:Bool):Option XR->Prop
 |some r=>r.c/\ycjz d an old r.r rs=true/\nx (yjm d dst old ((i,r.r)::rs)) (r.s.put dst r.v)
 |none=>False
def runO(d:Bool)(rs:List (Nat×SRec))(s:SS)(i an:Nat)(dst:Option Nat)(nx:List (Nat×SRec)->SS->Prop)(op:SOp):Prop:=match op with
 |.call f xs=>ybyi C d rs s i an dst nx (s.get f) (s.gets xs)
 |op=>opO d rs i an dst nx (d&&ybqt s rs op) (xOp s dst op)
def yux(d:Bool)(rs:List (Nat×SRec))(s:SS)(i an:Nat)(dst:Option Nat)(nx:List (Nat×SRec)->SS->Prop)(op:SOp)(t:Nat)(w:Bool):Option SV->Prop
 |some (.b c)=>(c=w->runO C d rs (s.put (some t) (.b w)) i an dst nx op)/\(c = !w->nx rs ((s.put (some t) (.b !w)).put dst (.tp [])))
 |some (.tp [])=>nx rs (s.put dst (.tp []))
 |_=>False
def ynv(d:Bool)(K:SS->Prop):List SOper->Nat->List (Nat×SRec)->SS->Prop
 |[],_,_,s=>K s
 | o::l,i,rs,s=>match o.g with
   |none=>runO C d rs s i o.an o.dst (ynv d K l (i+1)) o.op
   |some (t,w)=>yux C d rs s i o.an o.dst (ynv d K l (i+1)) o.op t w (look s.f t)
end
end Sh
end
section
namespace Sh
open Go Ev
def yvq(k:Value)(a b:Int):Bool:=match k with
 | .agg cs=>(match cs.toList with
   |[.int .i64 x,.int .u32 y]=>decide (x=a)&&decide (y=b)
   |_=>false)
 |_=>false
def ygy(a b:Int):List MapEntry->Option Value
 |[]=>none
 |e::es=>if yvq e.key a b=true then some e.val else ygy a b es
structure MapOk(kd:Nat)(es:List MapEntry)(g:Nat->List SV):Prop where
 key:∀e∈es,∃a b:Int,e.key = .agg #[.int .i64 a,.int .u32 b]/\0<=a/\0<=b/\b<4294967296
 kind:∀e∈es,if kd=0 then ∃x,e.val = .bool x else ∃n,e.val = .int .i64 n
 val:∀a b:Int,0<=a->0<=b->b<4294967296->g (mkey a b)=[match ygy a b es with|some v=>ofV v|none=>ylp kd]
def ycjm(F:AM)(ω:Om)(m:Mem)(β:Nm)(ob:OB):Prop :=
 (∃k T,∃L:Nat->List Value,ω β=some (some (k,ob.z))/\ob.e≠CU/\m.b.get k=some (.cells T (ob.n*ob.z) ob.e (if ob.bx then 0 else ob.z)) /\
   ∀i,i<ob.n->(L i).length=ob.z/\RVL F ω (ob.g i) (L i)/\(ob.g i).all one1=true/\∀j,j<ob.z->T.get (i*ob.z+j)=(L i)[j]?)\/(ω β=some none/\ob.n=0/\ob.bx=false) \/
 ∃k es cl,ω β=some (some (k,ob.z))/\(ob.e=CU/\ob.n=0/\ob.bx=true)/\m.b.get k=some (.map es cl)/\MapOk ob.z es.toList ob.g
structure Conc(lo:Nat)(F:AM)(ω:Om)(s:SS)(f:Fr)(m:Mem):Prop where
 wf:Wf m
 low:lo<=m.low
 nxt:lo<=m.next
 sub:∀i b,F i=some b->m.b.get i=some b
 own:∀β ob,lookO s.o β=some ob->ycjm F ω m β ob
 dom:∀β:Nm,look s.o β.1=none->ω β=none
 inj:∀β γ k z k' z',ω β=some (some (k,z))->ω γ=some (some (k',z'))->β≠γ->k≠k'
 apart:∀β k z,ω β=some (some (k,z))->F k=none/\lo<=k/\k<m.next
 fr:∀t v,look s.f t=some v->∃u,f.t.get t=some u/\RV F ω v u
section
variable {P:Program}{lo:Nat}{F:AM}{ω:Om}{s:SS}{f:Fr}{m:Mem}{o:Oper}
theorem Conc.get(h:Conc lo F ω s f m){x:Operand}{v:SV}(hx:s.get x=some v):∃u,f.get x=some u/\RV F ω v u:=by
 cases x with
 |tmp t=>exact h.fr t v hx
 |const c=>exact⟨c,(ybfw (F:=F) (ω:=ω) hx).1,(ybfw hx).2⟩
 |global g=>cases hx
 |func g=>cases hx;exact⟨_,rfl,by simpa using RV.fn (F:=F) (ω:=ω) (g:=g) .nil .nil⟩
theorem Conc.pget(h:Conc lo F ω s f m){x:Operand}{v:SV}(hx:s.pget x=some v):∃u,f.get x=some u/\RV F ω v u:=by
 unfold SS.pget at hx;split at hx
 .rename_i Q w hw
  cases hx
  obtain⟨u,h1,h2⟩:=h.get hw;cases h2 with
  |ex _ _ h3=>exact⟨u,h1,h3.mono (Le.refl _) (yqo _)⟩
 .exact h.get hx
theorem Conc.gets(h:Conc lo F ω s f m):∀{xs:List Operand}{vs:List SV},s.gets xs=some vs->∃us,valsA f xs=some us/\RVL F ω vs us
 |[],vs,hx=>by cases hx;exact⟨[],rfl,.nil⟩
 | x :: xs,vs,hx=>by
   unfold SS.gets at hx;split at hx
   .rename_i v ws h1 h2
    cases hx
    obtain⟨u,e1,r1⟩:=h.get h1;obtain⟨us,e2,r2⟩:=h.gets h2;refine⟨u::us,?_,.cons r1 r2⟩;unfold valsA;rw[e1];simp only[e2]
   .cases hx
def OpS(P:Program)(lo:Nat)(F:AM)(ω:Om)(f:Fr)(m:Mem)(o:Oper)(r:XR):Prop :=
 ∃ r0 ω',evOp P f o m=some r0/\ω.le ω'/\Conc lo F ω' r.s f (m.app r0.e)/\RV F ω' r.v r0.v /\
   (∀β k z,ω' β=some (some (k,z))->ω β=some (some (k,z))\/m.next<=k) /\
   (∀x∈r0.foot,(∃β z,β∈r.r.rd/\ω β=some (some (x,z)))\/(r.r.fz=true/\∃b,F x=some b)) /\
   (∀x∈r0.e.mods,∃β z,β∈r.r.wr/\ω β=some (some (x,z)))/\(r.r.nw=[]->r0.e.adds=false)/\(r0.e.adds=true->∃β z,β∈r.r.nw/\ω' β=some (some (m.next,z)))
theorem OpS.pure (hc:Conc lo F ω s f m) {u:Value}{ft:List Nat}(h:evOp P f o m=some ⟨u,.none,ft⟩) {c:Prop}{r:SRec}{v:SV}(hv:RV F ω v u)
 (hft:∀x∈ft,(∃β z,β∈r.rd/\ω β=some (some (x,z)))\/(r.fz=true/\∃b,F x=some b)):OpS P lo F ω f m o ⟨c,r,v,s⟩ :=
 ⟨_,ω,h,Om.le_refl _,hc,hv,fun _ _ _ h=>.inl h,hft,fun x hx=>(by cases hx),fun _=>rfl,fun q=>(by cases q)⟩
theorem OpS.idle(hc:Conc lo F ω s f m){u:Value}(h:evOp P f o m=some ⟨u,.none,[]⟩){c:Prop}{r:SRec}{v:SV}(hv:RV F ω v u):OpS P lo F ω f m o ⟨c,r,v,s⟩ :=
 OpS.pure hc h hv (fun x hx=>by cases hx)
theorem s_mv(hc:Conc lo F ω s f m){x:Operand}{v:SV}(hop:o.op = .move x\/o.op = .assign x)(hx:s.get x=some v){c:Prop}{r:SRec}:OpS P lo F ω f m o ⟨c,r,v,s⟩:=by
 obtain⟨u,e,hr⟩:=hc.get hx;refine OpS.idle hc (u:=u) ?_ hr;unfold evOp;rcases hop with h|h<;>rw[h]<;>show ob (f.get x) val=_<;>rw[e]<;>rfl
theorem RV.bool_inv{t:Bool}{u:Value}(h:RV F ω (.b t) u):u = .bool t:=by cases h;rfl
theorem RV.int_inv{k:IntKind}{n:Int}{u:Value}(h:RV F ω (.i k n) u):u = .int k n:=by cases h;rfl
theorem ydln(hc:Conc lo F ω s f m){x y w:Operand}{t:Bool}{v:SV}(hop:o.op = .pick x y w)(hx:s.get x=some (.b t))(hy:s.get (if t then y else w)=some v){c:Prop}{r:SRec}:OpS P lo F ω f m o ⟨c,r,v,s⟩:=by
 obtain⟨u,e,hr⟩:=hc.get hx;obtain⟨u',e',hr'⟩:=hc.get hy;cases hr.bool_inv
 refine OpS.idle hc (u:=u') ?_ hr';unfold evOp;rw[hop];show ob (f.get x) (evPick f y w)=_;rw[e];show ob (f.get (iteB t y w)) val=_;rw[ybe,e'];rfl
theorem yhh{T:T Value}:∀{L:List Value}{o:Nat},(∀j,j<L.length->T.get (o+j)=L[j]?)->getCells T o L.length=some L
 |[],_,_=>rfl
 | v::L,o,h=>by
   show(match T.get o with|none=>none|some v=>match getCells T (o+1) L.length with|none=>none|some l=>some (v::l))=_
   have h0:=h 0 (by simp)
   rw[Nat.add_zero]at h0;rw[h0];simp only[List.getElem?_cons_zero];rw[yhh (L:=L) (o:=o+1) (fun j hj=>by have:=h (j+1) (by simp;omega);rw[show o+1+j=o+(j+1)by omega,this];simp)]
theorem yuj{ag:Bool}{p n:Nat}{l:List SV}{L:List Value}{v:SV}(h:part ag p n l=some v)(hl:RVL F ω l L) :
 p+n<=L.length/\((ag=true/\RV F ω v (.agg ((L.drop p).take n).toArray))\/(ag=false/\n=1/\∃u,L[p]?=some u/\RV F ω v u)):=by
 unfold part at h;split at h
 .rename_i hle
  rw[hl.length]at hle;refine⟨hle,?_⟩;split at h
  .rename_i ha
   cases h
   exact .inl ⟨ha,.ag ((hl.drop p).take n)⟩
  .rename_i ha
   split at h
   .rename_i hn
    have hg:l[p]?=some v:=by rw[List.head?_drop]at h;exact h
    obtain⟨u,h1,h2⟩:=hl.get hg;exact .inr ⟨by simpa using ha,hn,u,h1,h2⟩
   .cases h
 .cases h
theorem ysq {t:TypeId}{d:TypeDesc}{i:TypeInfo}(hd:P.underlying t=some d) (hi:P.info? t=some i) {bk p:Nat}{T:T Value}{N e zz:Nat}(hb:m.b.get bk=some (.cells T N e zz))
 {L:List Value}{q:Nat}(hN:q+L.length<=N) (hT:∀j,j<L.length->T.get (q+j)=L[j]?) (hp:p+i.size<=L.length) {v:SV}
 (hv:(isAggD d=true/\RV F ω v (.agg ((L.drop p).take i.size).toArray))\/(isAggD d=false/\i.size=1/\∃u,L[p]?=some u/\RV F ω v u)) :
 ∃u,loadA P m t ⟨bk,q+p,none⟩=some u/\RV F ω v u:=by
 unfold loadA;rw[hb,hd,hi];simp only;rcases hv with⟨ha,hr⟩|⟨ha,hn,u,hu,hr⟩
 .rw[ha];simp only[cond_true];rw[zB (show q+p+i.size<=N by omega)]
  simp only[cond_true];have hlen:((L.drop p).take i.size).length=i.size:=by simp;omega
  have:=yhh (T:=T) (L:=(L.drop p).take i.size) (o:=q+p) (fun j hj=>by
   rw[hlen]at hj;rw[show q+p+j=q+(p+j)by omega,hT _ (by omega)]
   simp[List.getElem?_drop,hj])
  rw[hlen]at this;rw[this];exact⟨_,rfl,hr⟩
 .rw[ha];simp only[cond_false];rw[show zJ (q+p) N=true from zB (show q+p+1<=N by omega)]
  simp only[cond_true];exact⟨u,by rw[hT p (by omega)];exact hu,hr⟩
theorem RV.rf_inv{c:List SV}{u:Value}(h:RV F ω (.rf c) u):∃bk p T N e zz L,u = .pointer (some ⟨bk,p,none⟩)/\F bk=some (.cells T N e zz)/\p+L.length<=N/\(∀j,j<L.length->T.get (p+j)=L[j]?)/\RVL F om0 c L/\c.all one1=true:=by
 cases h with
 |rf h1 h2 h3 h4 h5=>exact⟨_,_,_,_,_,_,_,rfl,h1,h2,h3,h4,h5⟩
theorem RV.pt_inv{β:Nm}{i j:Nat}{u:Value}(h:RV F ω (.pt β i j) u):∃k z,ω β=some (some (k,z))/\u = .pointer (some ⟨k,i*z+j,none⟩):=by
 cases h with
 |pt h=>exact⟨_,_,h,rfl⟩
theorem Conc.ownAt(hc:Conc lo F ω s f m){β:Nm}{k z:Nat}{b:OB}(hb:lookO s.o β=some b)(hk:ω β=some (some (k,z)))(hn:b.n≠0\/b.bx=false):z=b.z/\∃T,∃L:Nat->List Value,m.b.get k=some (.cells T (b.n*b.z) b.e (if b.bx then 0 else b.z)) /\
 ∀i,i<b.n->(L i).length=b.z/\RVL F ω (b.g i) (L i)/\(b.g i).all one1=true/\∀j,j<b.z->T.get (i*b.z+j)=(L i)[j]?:=by
 rcases hc.own β b hb with⟨k',T,L,h1,_,h2,h3⟩|⟨h1,_⟩|⟨k',es,cl,h1,⟨h2,h3,h4⟩,h5⟩
 .rw[hk]at h1;cases h1;exact⟨rfl,T,L,h2,h3⟩
 .rw[hk]at h1;cases h1
 .rcases hn with q|q
  .exact absurd h3 q
  .rw[h4]at q;cases q
theorem Conc.ownE(hc:Conc lo F ω s f m){β:Nm}{k z:Nat}{b:OB}(hb:lookO s.o β=some b)(hk:ω β=some (some (k,z)))(hn:b.n≠0\/b.bx=false):b.e≠CU:=by
 rcases hc.own β b hb with⟨k',T,L,h1,h0,h2,h3⟩|⟨h1,_⟩|⟨k',es,cl,h1,⟨h2,h3,h4⟩,h5⟩
 .exact h0
 .rw[hk]at h1;cases h1
 .rcases hn with q|q
  .exact absurd h3 q
  .rw[h4]at q;cases q
theorem Conc.ownZ(hc:Conc lo F ω s f m){β:Nm}{k z:Nat}{b:OB}(hb:lookO s.o β=some b)(hk:ω β=some (some (k,z))):z=b.z/\∃x,m.b.get k=some x:=by
 rcases hc.own β b hb with⟨k',T,L,h1,_,h2,h3⟩|⟨h1,_⟩|⟨k',es,cl,h1,_,h2,_⟩
 .rw[hk]at h1;cases h1;exact⟨rfl,_,h2⟩
 .rw[hk]at h1;cases h1
 .rw[hk]at h1;cases h1;exact⟨rfl,_,h2⟩
theorem ycve (hc:Conc lo F ω s f m) {t:TypeId}{x:Operand}{d:TypeDesc}{i:TypeInfo}(hop:o.op = .load t x) (hd:P.underlying t=some d) (hi:P.info? t=some i) {p:SV}(hx:s.get x=some p)
 {r:XR}(h:yvz s (isAggD d) i.size p=some r) (hr:r.c):OpS P lo F ω f m o r:=by
 obtain⟨u,e,hu⟩:=hc.get hx
 have hev:∀{a:Addr}{v:Value},u = .pointer (some a)->loadA P m t a=some v->evOp P f o m=some ⟨v,.none,[a.block]⟩:=by
  intro a v h1 h2;unfold evOp;rw[hop];show ob (f.get x) (evLoad P t m)=_;rw[e,h1];show ob (loadA P m t a) _=_;rw[h2];rfl
 unfold yvz at h;split at h
 .rename_i c
  split at h
  .rename_i v hv
   cases h
   obtain⟨bk,q,T,N,e',zz,L,rfl,h1,h2,h3,h4,_⟩:=hu.rf_inv;obtain⟨hp,hpv⟩:=yuj hv h4;obtain⟨w,w1,w2⟩:=ysq (F:=F) hd hi (hc.sub _ _ h1) (q:=q) h2 h3 hp hpv;exact OpS.pure hc (hev rfl w1) (w2.mono (Le.refl _) (yqo _)) (fun y hy=>by simp at hy;subst hy;exact .inr ⟨rfl,_,h1⟩)
  .cases h
 .rename_i β a j
  split at h
  .rename_i b hb
   split at h
   .rename_i hz
    split at h
    .rename_i v hv
     cases h
     obtain⟨k,z,hk,rfl⟩:=hu.pt_inv;obtain⟨rfl,T,L,g1,g2⟩:=hc.ownAt hb hk (.inl (by have hr:a<b.n:=hr;omega))
     obtain⟨l1,l2,_,l3⟩:=g2 a hr;obtain⟨hp,hpv⟩:=yuj hv l2;have hr:a<b.n:=hr;obtain⟨w,w1,w2⟩:=ysq (F:=F) hd hi g1 (q:=a*b.z) (L:=L a) (by rw[l1];have:=zI b.z (zK hr);rw[zO]at this;omega) (fun y hy=>l3 y (by omega)) hp hpv
     exact OpS.pure hc (hev rfl w1) w2 (fun y hy=>by simp at hy;subst hy;exact .inl ⟨β,b.z,by simp,hk⟩)
    .cases h
   .cases h
  .cases h
 .cases h
end
end Sh
end
section
namespace Sh
open Go Ev
section
variable {P:Program}{lo:Nat}{F:AM}{ω:Om}{s:SS}{f:Fr}{m:Mem}{o:Oper}{c:Prop}{r:SRec}
theorem ycca(hc:Conc lo F ω s f m){x:Operand}{v:SV}(hop:o.op = .nilCheck x)(hx:s.get x=some v)(hv:(∃c,v = .rf c)\/∃β i j,v = .pt β i j):OpS P lo F ω f m o ⟨c,r,v,s⟩:=by
 obtain⟨u,e,hr⟩:=hc.get hx
 have:∃a,u = .pointer (some a):=by
  rcases hv with⟨_,rfl⟩|⟨_,_,_,rfl⟩
  .obtain⟨bk,p,T,N,e,zz,L,rfl,_⟩:=hr.rf_inv;exact⟨_,rfl⟩
  .obtain⟨k,z,_,rfl⟩:=hr.pt_inv;exact⟨_,rfl⟩
 obtain⟨a,rfl⟩:=this;refine OpS.idle hc (u:=.pointer (some a)) ?_ hr;unfold evOp;rw[hop];show ob (f.get x) evNilCheck=_;rw[e];rfl
theorem yup(b p q:Nat):addrAt ⟨b,p,none⟩ q=some ⟨.pointer (some ⟨b,p+q,none⟩),.none,[]⟩:=by
 show ptrAt b (Nat.add p q)=_;unfold ptrAt;rw[ybp];rfl
theorem yla{l:List SV}{g:SV->Bool}(h:l.all g=true)(n:Nat):(l.drop n).all g=true:=List.all_eq_true.2 fun x hx=>List.all_eq_true.1 h x (List.mem_of_mem_drop hx)
theorem yse{l:List SV}{g:SV->Bool}(h:l.all g=true)(n:Nat):(l.take n).all g=true:=List.all_eq_true.2 fun x hx=>List.all_eq_true.1 h x (List.mem_of_mem_take hx)
theorem RV.rf_in{l:List SV}{bk p T N e zz}{L:List Value}(h1:F bk=some (.cells T N e zz))(h2:p+L.length<=N)(h3:∀j,j<L.length->T.get (p+j)=L[j]?)(h4:RVL F om0 l L)(h5:l.all one1=true){q n:Nat}(hq:q+n<=l.length) :
 RV F ω (.rf ((l.drop q).take n)) (.pointer (some ⟨bk,p+q,none⟩)):=by
 rw[h4.length]at hq;have hlen:((L.drop q).take n).length=n:=by simp;omega
 refine .rf h1 (L:=(L.drop q).take n) (by rw[hlen];omega) (fun j hj=>?_) ((h4.drop q).take n) (yse (yla h5 q) n)
 rw[hlen]at hj;rw[show p+q+j=p+(q+j)by omega,h3 _ (by omega)]
 simp[hj]
theorem ybzv (hc:Conc lo F ω s f m) {t:TypeId}{x:Operand}{k:Nat}{fs:Array Field}{fd:Field}{i:TypeInfo}(hop:o.op = .fieldAddr t x k) (hd:P.underlying t=some (.struct fs)) (hf:fs[k]?=some fd) (hi:P.info? fd.type=some i) (h0:i.size≠0)
 {v w:SV}(hx:s.get x=some v) (hw:(∃l,v = .rf l/\fd.offset+i.size<=l.length/\w = .rf ((l.drop fd.offset).take i.size))\/∃β a j,v = .pt β a j/\w = .pt β a (j+fd.offset)):OpS P lo F ω f m o ⟨c,r,w,s⟩:=by
 obtain⟨u,e,hr⟩:=hc.get hx
 have hev:∀{b p:Nat},u = .pointer (some ⟨b,p,none⟩)->evOp P f o m=some ⟨.pointer (some ⟨b,p+fd.offset,none⟩),.none,[]⟩:=by
  rintro b p rfl;unfold evOp;rw[hop];show ob (f.get x) (evFieldAddr P t k)=_;rw[e];show ob (P.underlying t) _=_;rw[hd];show ob fs[k]? _=_;rw[hf];show ob (P.info? fd.type) _=_;rw[hi];show iteB (Nat.beq i.size 0) none _=_;rw[ybe,if_neg (by intro q;exact h0 (zG q)),yup]
 rcases hw with⟨l,rfl,hl,rfl⟩|⟨β,a,j,rfl,rfl⟩
 .obtain⟨bk,p,T,N,e',zz,L,rfl,h1,h2,h3,h4,h5⟩:=hr.rf_inv;exact OpS.idle hc (hev rfl) (RV.rf_in h1 h2 h3 h4 h5 hl)
 .obtain⟨k',z,hk,rfl⟩:=hr.pt_inv;refine OpS.idle hc (hev rfl) ?_;rw[zM];exact .pt hk
theorem RV.ag_inv{l:List SV}{u:Value}(h:RV F ω (.ag l) u):∃L:List Value,u = .agg L.toArray/\RVL F ω l L:=by
 cases h with
 |ag h=>exact⟨_,rfl,h⟩
theorem RV.tp_inv{l:List SV}{u:Value}(h:RV F ω (.tp l) u):∃L:List Value,u = .tuple L.toArray/\RVL F ω l L:=by
 cases h with
 |tp h=>exact⟨_,rfl,h⟩
theorem ydge (hc:Conc lo F ω s f m) {t:TypeId}{x:Operand}{k:Nat}{fs:Array Field}{fd:Field}{i:TypeInfo}{d:TypeDesc}(hop:o.op = .field t x k) (hd:P.underlying t=some (.struct fs)) (hf:fs[k]?=some fd) (hi:P.info? fd.type=some i) (hu:P.underlying fd.type=some d)
 {l:List SV}{w:SV}(hx:s.get x=some (.ag l)) (hw:part (isAggD d) fd.offset i.size l=some w):OpS P lo F ω f m o ⟨c,r,w,s⟩:=by
 obtain⟨u,e,hr⟩:=hc.get hx;obtain⟨L,rfl,hL⟩:=hr.ag_inv;obtain⟨hp,hpv⟩:=yuj hw hL
 have hev:∀{v:Value},partA P fd.type L fd.offset=some v->evOp P f o m=some ⟨v,.none,[]⟩:=by
  intro v hv;unfold evOp;rw[hop];show ob (f.get x) (evFieldOf P t k)=_;rw[e];show ob (P.underlying t) _=_;rw[hd];show ob fs[k]? _=_;rw[hf];show ob (partA P fd.type L fd.offset) val=_;rw[hv];rfl
 unfold partA at hev;rw[hu,hi]at hev;simp only at hev;rcases hpv with⟨ha,hv⟩|⟨ha,hn,v,h1,hv⟩
 .rw[ha]at hev;simp only[cond_true,takeFrom]at hev;have hlen:((L.drop fd.offset).take i.size).length=i.size:=by simp;omega
  rw[hlen,zN]at hev;exact OpS.idle hc (hev rfl) hv
 .rw[ha]at hev;simp only[cond_false]at hev;exact OpS.idle hc (hev h1) hv
theorem RV.sl_inv{z n:Nat}{g:Nat->List SV}{u:Value}(h:RV F ω (.sl z n g) u):(n=0/\Z0 u)\/∃bk p cp T N e zz,∃L:Nat->List Value,u = .slice (some ⟨bk,p,none⟩) n cp/\F bk=some (.cells T N e zz)/\(zz=z\/zz=0)/\p+n*z<=N /\
 (∀k,k<n->(L k).length=z)/\(∀k,k<n->∀j,j<z->T.get (p+k*z+j)=(L k)[j]?)/\(∀k,k<n->RVL F om0 (g k) (L k))/\(∀k,k<n->(g k).all one1=true):=by
 cases h with
 |sl0 h=>exact .inl ⟨rfl,h⟩
 |sl h1 h2 h3 h4 h5 h6 h7=>exact .inr ⟨_,_,_,_,_,_,_,_,rfl,h1,h2,h3,h4,h5,h6,h7⟩
theorem RV.os_inv{β:Nm}{p n:Nat}{ap:Bool}{u:Value}(h:RV F ω (.os β p n ap) u):(∃k z cp,ω β=some (some (k,z))/\u = .slice (some ⟨k,p*z,none⟩) n cp/\(ap=true->cp=CU\/(cp=n/\n<CU)))\/(ω β=some none/\p=0/\n=0/\u = .slice none 0 0):=by
 cases h with
 |os h hb=>exact .inl ⟨_,_,_,h,rfl,hb⟩
 |os0 h=>exact .inr ⟨h,rfl,rfl,rfl⟩
theorem ykc{k n z:Nat}(h:k<n):k*z+z<=n*z:=by
 have:=zI z (zK h)
 rwa [zO]at this
theorem ydzo (hc:Conc lo F ω s f m) {t elem:TypeId}{x y:Operand}{i:TypeInfo}(hop:o.op = .indexAddr t x y) (hd:P.underlying t=some (.slice elem)) (hi:P.info? elem=some i)
 {v:SV}{kk:IntKind}{n:Int}(hx:s.pget x=some v) (hy:s.get y=some (.i kk n)) {q:XR}(h:idxX s n i.size v=some q) (hr:q.c):OpS P lo F ω f m o q:=by
 obtain⟨u,e,hu⟩:=hc.pget hx;obtain⟨u',e',hu'⟩:=hc.get hy;cases hu'.int_inv
 have hev:∀{b p len cp a:Nat},u = .slice (some ⟨b,p,none⟩) len cp->n=Int.ofNat a->a<len->evOp P f o m=some ⟨.pointer (some ⟨b,p+a*i.size,none⟩),.none,[]⟩:=by
  rintro b p len cp a rfl rfl ha;unfold evOp;rw[hop];show(ob (f.get x) fun x=>ob (f.get y) (evIndexAddr P t x))=_;rw[e];show ob (f.get y) (evIndexAddr P t _)=_;rw[e'];show ob (P.underlying t) _=_;rw[hd];show iteB (zJ a len) (ob (P.info? elem) fun inf=>addrAt ⟨b,p,none⟩ (zS a inf.size)) none=_;rw[ybe,if_pos (show zJ a len=true from zB ha),hi]
  exact yup _ _ _
 unfold idxX at h;split at h
 .rename_i z' len g
  split at h
  .rename_i hz
   subst hz;cases h
   obtain⟨h0,h1⟩:0<=n/\n<len:=hr;obtain⟨a,rfl⟩:=zD h0;have ha:a<len:=by omega
   rcases hu.sl_inv with⟨q,_⟩|⟨bk,p,cp,T,N,e2,zz,L,rfl,g1,g2,g3,g4,g5,g6,g7⟩
   .omega
   .refine OpS.idle hc (hev rfl rfl ha) ?_;rw[zH];have:=ykc (z:=i.size) ha;exact .rf (L:=L a) g1 (by rw[g4 a ha];omega) (fun j hj=>g5 a ha j (by rw[g4 a ha]at hj;exact hj)) (g6 a ha) (g7 a ha)
  .cases h
 .rename_i β p len cp
  split at h
  .rename_i b hb
   split at h
   .rename_i hz
    cases h
    obtain⟨h0,h1⟩:0<=n/\n<len:=hr;obtain⟨a,rfl⟩:=zD h0;have ha:a<len:=by omega
    rcases hu.os_inv with⟨k,z,cp,hk,rfl,_⟩|⟨_,_,q,_⟩
    .obtain⟨rfl,_⟩:=hc.ownZ hb hk;refine OpS.idle hc (hev rfl rfl ha) ?_;rw[zH,<-hz,<-zQ];exact .pt hk
    .omega
   .cases h
  .cases h
 .cases h
theorem ycbm (hc:Conc lo F ω s f m) {t elem:TypeId}{x y:Operand}{i:TypeInfo}{len:Nat}(hop:o.op = .indexAddr t x y) (hd:P.underlying t=some (.array len elem)) (hi:P.info? elem=some i)
 {v w:SV}{kk:IntKind}{n:Int}(hx:s.get x=some v) (hy:s.get y=some (.i kk n)) (hn:0<=n/\n<len)
 (hw:(∃β b a j,v = .pt β a j/\lookO s.o β=some b/\b.z=i.size/\w = .pt β (a+n.toNat) j)\/(∃β a j,v = .pt β a j/\w = .pt β a (j+n.toNat*i.size))\/(∃l,v = .rf l/\n.toNat*i.size+i.size<=l.length/\w = .rf ((l.drop (n.toNat*i.size)).take i.size))):OpS P lo F ω f m o ⟨c,r,w,s⟩:=by
 obtain⟨u,e,hu⟩:=hc.get hx;obtain⟨u',e',hu'⟩:=hc.get hy;cases hu'.int_inv
 obtain⟨a,rfl⟩:=zD hn.1;have ha:a<len:=by omega
 have hev:∀{b p:Nat},u = .pointer (some ⟨b,p,none⟩)->evOp P f o m=some ⟨.pointer (some ⟨b,p+a*i.size,none⟩),.none,[]⟩:=by
  rintro b p rfl;unfold evOp;rw[hop];show(ob (f.get x) fun x=>ob (f.get y) (evIndexAddr P t x))=_;rw[e];show ob (f.get y) (evIndexAddr P t _)=_;rw[e'];show ob (P.underlying t) _=_;rw[hd];show iteB (zJ a len) (ob (P.info? elem) fun inf=>addrAt ⟨b,p,none⟩ (zS a inf.size)) none=_;rw[ybe,if_pos (show zJ a len=true from zB ha),hi]
  exact yup _ _ _
 simp only[zH]at hw;rcases hw with⟨β,b,a',j,rfl,hb,hz,rfl⟩|⟨β,a',j,rfl,rfl⟩|⟨l,rfl,hl,rfl⟩
 .obtain⟨k,z,hk,rfl⟩:=hu.pt_inv;obtain⟨rfl,_⟩:=hc.ownZ hb hk;refine OpS.idle hc (hev rfl) ?_;have:=RV.pt (F:=F) (i:=a'+a) (j:=j) hk;rw[show a'*b.z+j+a*i.size=(a'+a)*b.z+j by rw[<-hz,zQ];omega]
  exact this
 .obtain⟨k,z,hk,rfl⟩:=hu.pt_inv;refine OpS.idle hc (hev rfl) ?_;rw[zM];exact .pt hk
 .obtain⟨bk,p,T,N,e2,zz,L,rfl,h1,h2,h3,h4,h5⟩:=hu.rf_inv;exact OpS.idle hc (hev rfl) (RV.rf_in h1 h2 h3 h4 h5 hl)
theorem yccx(hc:Conc lo F ω s f m){x:Operand}{k:Nat}{l:List SV}{v:SV}(hop:o.op = .extract x k)(hx:s.get x=some (.tp l))(hk:l[k]?=some v):OpS P lo F ω f m o ⟨c,r,v,s⟩:=by
 obtain⟨u,e,hu⟩:=hc.get hx;obtain⟨L,rfl,hL⟩:=hu.tp_inv;obtain⟨w,h1,h2⟩:=hL.get hk;refine OpS.idle hc (u:=w) ?_ h2;unfold evOp;rw[hop];show ob (f.get x) (evExtract k)=_;rw[e];show ob (L.toArray)[k]? val=_;rw[show L.toArray[k]?=some w by simpa using h1]
 rfl
theorem ydrf(hc:Conc lo F ω s f m){g:FuncId}{a b:Array Operand}{va vb:List SV}(hop:o.op = .makeFunc (.func g) a b)(ha:s.gets a.toList=some va)(hb:s.gets b.toList=some vb):OpS P lo F ω f m o ⟨c,r,.fn g va vb,s⟩:=by
 obtain⟨ua,e1,h1⟩:=hc.gets ha;obtain⟨ub,e2,h2⟩:=hc.gets hb;refine OpS.idle hc ?_ (.fn h1 h2);unfold evOp;rw[hop];show(ob (valsA f a.toList) fun a=>ob (valsA f b.toList) fun b=>evMakeFunc a b (.func g))=_;rw[e1];show(ob (valsA f b.toList) fun b=>evMakeFunc ua b (.func g))=_;rw[e2];rfl
end
end Sh
end
end Go.Proofs.YthclbjjgfcgbgaaGreatDoor
