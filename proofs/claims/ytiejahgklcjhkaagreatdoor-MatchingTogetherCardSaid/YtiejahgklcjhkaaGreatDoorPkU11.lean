/- Joined. -/
import Derived.Test.YtiejahgklcjhkaaGreatDoorPkU8
import Derived.Deep.Matrix
import Derived.Lib.SmallJoins
import Derived.Test.YtiejahgklcjhkaaGreatDoorPkU7
set_option linter.unusedSimpArgs false
set_option linter.unusedVariables false
set_option maxRecDepth 8000
open Go.Proofs.Tryz renaming prog→zA
open List renaming getElem?_eq_getElem→zB,getElem?_set→zD,mem_of_getElem?→zF,getD→zH,range→zJ,getElem?_replicate→zK,take_succ_eq_append_getElem→zN,mem_zipIdx_iff_getElem?→zO,foldl_append→zS,getElem?_zip_eq_some→zT,all_eq_true→zU,map_cons→zV,take_length→zW,length_nil→zX,range_succ→zY,replicate→zZ,length→zAC
open Nat renaming reduceEqDiff→zC,le_refl→zG,reduceAdd→zQ,zero_add→zAA,lt_or_ge→zAB,zero_le→zAD
open Bool renaming and_eq_true→zI
open Int renaming toNat_natCast→zL
open Array renaming getElem?_eq_none→zM
open Go
namespace Go.Proofs.YtiejahgklcjhkaaGreatDoor
section
open Go.ChangeShapes Go.WideShapes Go.ChangeAt Go.RowKit
section
variable {H:Type}{enc:TypeId×Value->H}{P:Program}{w:World}{base:Nat}{held:Bool}
theorem wf_i64{n:Int}(h:(Lit.int .i64 n).wf=true):I64 n:=by
 simp only[Lit.wf,zI,decide_eq_true_eq]at h;have e1:IntKind.i64.min = -9223372036854775808:=rfl;have e2:IntKind.i64.max=9223372036854775807:=rfl;rw[e1,e2]at h;exact h
end
theorem own:ownKnob Tryz.prog.godebug=Option.none:=by kernel_rfl
theorem laidOut:laidOutB zA=true:=by kernel_rfl
section
variable {H:Type}{enc:TypeId×Value->H}{w:World}{base:Nat}{held:Bool}{n:Nat}{v:Value}{x:DataW H×List MemPlace}
end
end
section
namespace Sh
open Go Ev Go.RowKit
noncomputable def ybhi{α:Type}(t:T α):Nat->List (Option α)->T α
 |_,[]=>t
 |i,x::l=>ybhi (T.set (Nat.succ i) t i x) (i+1) l
theorem yrd{α:Type}:∀(l:List (Option α)) (t:T α) (i j:Nat),(ybhi t i l).get j=if i<=j/\j<i+l.length then(l[j-i]?).join else t.get j
 |[],t,i,j=>by rw[if_neg (by simp)];rfl
 | x :: l,t,i,j=>by
   unfold ybhi;rw[yrd l _ _ j]
   by_cases c:i+1<=j/\j<i+1+l.length
   ·rw[if_pos c,if_pos (by simp;omega),show j-i=(j-(i+1))+1 by omega]
    rfl
   ·rw[if_neg c,T.set_at]
    by_cases q:j=i
    ·subst q;rw[if_pos rfl,if_pos (by simp)]
     simp
    ·rw[if_neg q,if_neg (by simp;omega)]
def absV(Z:Nat)(v:Value):Option Value:=if simple v then some v else match v with
 |.slice (some ⟨b,o,none⟩) n c=>if n<=c/\c<=9223372036854775807 then(if c=0 then some (.slice (some ⟨Z,0,none⟩) n CU)else if b<=Z then some (.slice (some ⟨b,o,none⟩) n CU)else none)else none
 |.slice (some ⟨_,_,some _⟩) n c=>if n<=c/\c=0 then some (.slice (some ⟨Z,0,none⟩) n CU)else none
 |_=>none
def isU8:Value->Bool
 |.int .u8 _=>true
 |_=>false
noncomputable def absB(Z:Nat)(w:World)(i:Nat):Option ABlk:=match w.heap[i]? with
 |some (.cells c _ _)=>if c.toList.all isU8=true then none else some (.cells (ybhi .leaf 0 (c.toList.map (absV Z))) c.size CU 0)
 |_=>none
def phiW(w:World):Phi:=fun i=>match w.heap[i]? with
 |some (.cells c _ _)=>some ⟨i,0,c.size,0,w.heap[i]?⟩
 |_=>if i<=w.heap.size then some ⟨i,0,0,0,none⟩else none
noncomputable def memW(w:World):Mem:=⟨w.heap.size+1,ybhi .leaf 0 ((zJ w.heap.size).map (absB w.heap.size w)),w.heap.size+1⟩
theorem yla{w:World}{i:Nat}{b:ABlk}:(memW w).b.get i=some b↔absB w.heap.size w i=some b:=by
 show(ybhi .leaf 0 _).get i=some b↔_;rw[yrd]
 by_cases h:i<w.heap.size
 ·rw[if_pos (by simpa using h)]
  simp[h]
 ·rw[if_neg (by simpa using h),T.get_leaf]
  have:absB w.heap.size w i=none:=by unfold absB;rw[zM (by omega)]
  rw[this]
theorem ybca(w:World):Wf (memW w):=fun i b h=>by
 rw[yla]at h;show i<w.heap.size+1;unfold absB at h;split at h
 ·rename_i hc;have:=(Array.getElem?_eq_some_iff.1 hc).1;omega
 ·cases h
theorem ybdm{w:World}{v u:Value}(h:absV w.heap.size v=some u):VR (phiW w) u v:=by
 have hZ:∃l,phiW w w.heap.size=some l:=by
  unfold phiW;rw[zM (zG _)];simp
 have hφ:∀b,b<=w.heap.size->∃sz ob,phiW w b=some ⟨b,0,sz,0,ob⟩:=by
  intro b hb;unfold phiW;split
  ·exact⟨_,_,rfl⟩
  ·rw[if_pos hb];exact⟨_,_,rfl⟩
 unfold absV at h;split at h
 ·rename_i hs;cases h;exact .simple hs
 ·split at h
  ·rename_i b o n c _
   split at h
   ·rename_i hc
    split at h
    ·rename_i h0
     cases h
     obtain⟨l,hl⟩:=hZ;exact .slice hl hc.1 (fun q=>absurd rfl q) hc.2 (.inr h0)
    ·split at h
     ·rename_i hbl
      cases h
      obtain⟨sz,ob',hl⟩:=hφ b hbl;exact .slice hl hc.1 (fun q=>absurd rfl q) hc.2 (.inl ⟨by simp,.inl rfl⟩)
     ·cases h
   ·cases h
  ·rename_i b o sp n c _
   split at h
   ·rename_i hc
    cases h
    obtain⟨l,hl⟩:=hZ;exact .slice hl hc.1 (fun q=>absurd rfl q) (by omega) (.inr hc.2)
   ·cases h
  ·cases h
theorem ybvn:∀x,ybxs=some x->x.2.all isU8=true:=by
 intro x hx;unfold ybxs at hx
 first|(cases hx;done)|(cases hx;rfl)
theorem relW{w:World}(hG:GlW w):Rel (phiW w) (memW w).b.get w:=by
 have hblk:∀i b,(memW w).b.get i=some b->∃l,phiW w i=some l/\l.blk=i/\l.ob=w.heap[i]?/\BR (phiW w) l w b:=by
  intro i b hb;rw[yla]at hb;unfold absB at hb;split at hb
  ·rename_i c e fz hc
   split at hb
   ·cases hb
   cases hb
   refine⟨⟨i,0,c.size,0,w.heap[i]?⟩,by unfold phiW;rw[hc],rfl,rfl,rfl,by simp,c.toList,e,fz,⟨fun q=>absurd rfl q,fun o ho=>ho⟩,by simpa using hc,by simp,fun j v hj hg=>?_⟩
   rw[yrd]at hg;split at hg
   ·simp only[Nat.sub_zero,List.getElem?_map]at hg;cases hcj:c.toList[j]? with
    |none=>rw[hcj]at hg;cases hg
    | some x =>
      rw[hcj]at hg;have hg:absV w.heap.size x=some v:=by simpa using hg
      exact⟨x,by rw[zAA];exact hcj,ybdm hg⟩
   ·rw[T.get_leaf]at hg;cases hg
  ·cases hb
 refine⟨⟨fun i b hb=>by obtain⟨l,h1,_,_,h2⟩:=hblk i b hb;exact⟨l,h1,h2⟩,fun i j x y li lj hne hx hy hi hj=>?_⟩,fun x hx=>⟨hG x hx,fun⟨i,b,l,h1,h2,h3⟩=>?_⟩⟩
 rotate_left
 ·obtain⟨l',k1,k2,_⟩:=hblk i b h1;rw[h2]at k1;cases k1
  rw[h3]at k2;obtain⟨e,fz,q⟩:=hG x hx;rw[yla]at h1;unfold absB at h1;rw[<-k2,q]at h1;simp only at h1;rw[if_pos (by simpa using ybvn x hx)]at h1
  cases h1
 obtain⟨l,h1,h2,_⟩:=hblk i x hx;obtain⟨l',h3,h4,_⟩:=hblk j y hy;rw[hi]at h1;cases h1
 rw[hj]at h3;cases h3
 rw[h2,h4];exact hne
theorem ycuf{w:World}{i:Nat}{b:ABlk}{l:Ev.Loc}(hb:(memW w).b.get i=some b)(hl:phiW w i=some l):l.blk=i/\∃o,l.ob=some o/\w.heap[i]?=some o:=by
 rw[yla]at hb;unfold absB at hb;split at hb
 ·rename_i c e fz hc
  unfold phiW at hl;rw[hc]at hl;cases hl
  exact⟨rfl,_,rfl,hc⟩
 ·cases hb
theorem yczv(w:World)(n:Nat):yfa (phiW w) (memW w).next n:=by
 intro i h1 _;have h1:w.heap.size+1<=i:=h1;unfold phiW;rw[zM (by omega)]
 simp only;rw[if_neg (by omega)]
theorem ybxt {P:Program}{g:FuncId}{args:List SV}{r:SV}{v:Value}{us us':List Value}{w:World}(h:Returns P g args r) (hg:∃fn c,P.funcs[g]?=some fn/\fn.body=some c) (hn:ymg P) (hG:GlW w)
 (ha:RVL (memW w).b.get om0 args us) (hv:VRL (phiW w) us us') (hr:∀F u,RV F om0 r u->u=v) (hat:∀φ v',VR φ v v'->v'=v):Calls P g us'.toArray w fun e w'=>e = .returned v/\Below w.heap.size w w':=by
 obtain⟨u,m',x,h1,h2,h3,rfl,h5⟩:=h (memW w).b.get (memW w) us (ybca w) (Le.refl _) ha;have hu:=hr _ _ h5;subst hu;have hs:=(h1 (ybca w)).2 (phiW w) (memW w).b.get w us' (relW hG) (fun i b hb=>hb) hv (yczv w _);obtain⟨fn,c,k1,k2⟩:=hg;rcases hs with⟨_,hc⟩|⟨v',w',hrun,_⟩
 ·refine hc.mono ?_;rintro e w' ⟨v',rfl,φ',M',hgd,hvr⟩;rw[hat _ _ hvr];refine⟨rfl,hgd.wg.os,hgd.wg.tape,hgd.wg.output,hgd.wg.size,fun k hk=>?_⟩
  by_cases hi:Img (phiW w) (memW w).b.get k
  ·obtain⟨i,b,l,e1,e2,e3⟩:=hi;obtain⟨k4,o,k5,k6⟩:=ycuf e1 e2;have hik:i=k:=k4.symm.trans e3;subst hik;have hlt:i<(memW w).next:=ybca w i b e1
   have hM:M' i=some b:=by
    rw[hgd.frame i (fun q=>by omega) (.inr (Nat.lt_of_lt_of_le hlt h2))]
    exact e1
   obtain⟨l',q1,q2⟩:=hgd.rel.blk i b hM;rw[hgd.le i l e2]at q1;cases q1
   have hcells:∃c n,b = .cells c n CU 0:=by
    rw[yla]at e1;unfold absB at e1;split at e1
    ·split at e1
     ·cases e1
     ·cases e1;exact⟨_,_,rfl⟩
    ·cases e1
   obtain⟨c',n',rfl⟩:=hcells;obtain⟨_,_,cs,e',fz,h0,_⟩:=q2;rw[k4]at h0;rw[h0.2 o k5,k6]
  ·exact hgd.wg.keep k hk hi
 ·rw[ybz hn k1 k2]at hrun;cases hrun
end Sh
end
section
namespace Sh
open Go Ev
theorem ydaz {g:FuncId}{fn:Func}{sc:SC}{rs:List SR}(hg:Tryz.prog.funcs[g]?=some fn) (hcmp:fn.body.bind (cmp zA fn.ntmps)=some sc) (hrs:cmpR zA fn.results.toList=some rs)
 {mu:List FuncId}{args:List SV}{Q:SV->Prop}(h:vc ⟨Ct zA,Cm zA,ItC zA,[],mu⟩ sc (retK rs Q) ⟨slots args 0,[]⟩):Ct zA g args Q:=by
 obtain⟨c,h1,h2⟩:=bind_some hcmp;exact ybza mix yrn hg h1 h2 hrs h
theorem ydbo {g:FuncId}{fn:Func}{sc:SC}{rs:List SR}(hg:Tryz.prog.funcs[g]?=some fn) (hcmp:fn.body.bind (cmp zA fn.ntmps)=some sc) (hrs:cmpR zA fn.results.toList=some rs)
 {pr:List Nm}{mu:List FuncId}{o:Own}{args:List SV}{Q:SV->Own->Prop}(h:vc ⟨Ct zA,Cm zA,ItC zA,pr,mu⟩ sc (retM rs pr Q) ⟨slots args 0,o⟩):Cm zA g pr o args Q:=by
 obtain⟨c,h1,h2⟩:=bind_some hcmp;exact ybtg mix yrn hg h1 h2 hrs h
def Fn(g:FuncId)(c:SC)(rs:List SR):Prop:=∀(args:List SV) (Q:SV->Prop),vc ⟨Ct zA,Cm zA,ItC zA,[],[]⟩ c (retK rs Q) ⟨slots args 0,[]⟩->Ct zA g args Q
def FnU(g:FuncId)(c:SC)(rs:List SR):Prop:=∀(mu:List FuncId) (args:List SV) (Q:SV->Prop),vc ⟨Ct zA,Cm zA,ItC zA,[],mu⟩ c (retK rs Q) ⟨slots args 0,[]⟩->Ct zA g args Q
def FnM(g:FuncId)(c:SC)(rs:List SR):Prop:=∀(pr:List Nm) (mu:List FuncId) (o:Own) (args:List SV) (Q:SV->Own->Prop),vc ⟨Ct zA,Cm zA,ItC zA,pr,mu⟩ c (retM rs pr Q) ⟨slots args 0,o⟩->Cm zA g pr o args Q
section
variable {g:FuncId}{fn:Func}{sc:SC}{rs:List SR}(hg:Tryz.prog.funcs[g]?=some fn) (hcmp:fn.body.bind (cmp zA fn.ntmps)=some sc) (hrs:cmpR zA fn.results.toList=some rs)
include hg hcmp hrs
theorem fn_0:Fn g sc rs:=fun _ _ h=>ydaz hg hcmp hrs h
theorem fn_u:FnU g sc rs:=fun _ _ _ h=>ydaz hg hcmp hrs h
theorem fn_m:FnM g sc rs:=fun _ _ _ _ _ h=>ydbo hg hcmp hrs h
end
def o3(x:SOp)(d a:Nat):SOper:=⟨x,some d,none,a⟩
def o0(x:SOp)(a:Nat):SOper:=⟨x,none,none,a⟩
abbrev LO:=List SOper
def mv'(x d a:Nat):SOper:=⟨.mv (.tmp x),some d,none,a⟩
def bn'(op:BinOp)(x y d a:Nat):SOper:=⟨.bin op (.tmp x) (.tmp y),some d,none,a⟩
def ld'(ag:Bool)(n x d a:Nat):SOper:=⟨.load ag n (.tmp x),some d,none,a⟩
def fa'(o n x d a:Nat):SOper:=⟨.faddr o n (.tmp x),some d,none,a⟩
def ix'(z x k d a:Nat):SOper:=⟨.idx z (.tmp x) (.tmp k),some d,none,a⟩
def ln'(x d a:Nat):SOper:=⟨.len (.tmp x),some d,none,a⟩
def xt'(x k d a:Nat):SOper:=⟨.extract (.tmp x) k,some d,none,a⟩
def cl'(g:FuncId)(xs:List Nat)(d a:Nat):SOper:=⟨.call (.func g) (xs.map .tmp),some d,none,a⟩
def ci'(n:Int):Operand:=.const (.int .i64 n)
attribute [go_sem] o3 o0 mv' bn' ld' fa' ix' ln' xt' cl' ci'
attribute [go_sem] ydgc ycse ybzh ybrk ydfa ycrm yczr ycqk ybyc yctx ybvw ywz yux ybjx ybaw puts ycss
attribute [go_sem] ydas ydfw ydcu yxe ybkq yblv yvf ybce ybkl ybkb ybtu ybbb ybya ybau ybzj
attribute [go_sem] yol Fam.at Prod.mk.injEq ycqz ycrr ycsm yctw yctc ycst ybho oldX oldV yif yld ybpf ycso gb_x ydgb resX ygn slots ybvg
attribute [go_sem] ybwb yblr runO opO ybpf xOp SS.get SS.pget SS.gets SS.lit look lookO SS.put SS.own ycsy ycus yctv ybfi ycar ycak ybvk
attribute [go_sem] ybzz ybxv ybyd ybwg ybga simple ylg yse yws part idxX natX yns ybhx xbin xun eqL splice fill OB.set ofV fits yctq ybet
attribute [go_sem] allP SRec.no SRec.pure clash nmem List.isEmpty_nil List.isEmpty_cons List.drop List.take List.all List.any List.map zAC List.head? List.append
attribute [go_sem] List.nil_append List.append_nil List.cons_append List.all_cons List.all_nil List.drop_succ_cons List.drop_zero List.take_succ_cons List.take_zero List.drop_nil
attribute [go_sem] List.take_nil List.length_cons zX zV List.map_nil List.getElem?_cons_zero List.getElem?_cons_succ List.elem zL zAA
attribute [go_sem] Nat.add_zero if_true if_false ite_true ite_false Option.isNone Option.isNone_none Option.map_some Option.map_none Bool.not_true Bool.not_false Bool.true_or
attribute [go_sem] Bool.or_true Bool.false_or Bool.or_false Bool.and_true Bool.true_and Bool.and_false Bool.false_and Bool.and_self Bool.or_self true_and and_true and_self
attribute [go_sem] true_implies false_implies implies_true forall_const Nat.lt_add_one Nat.one_pos Nat.zero_lt_one Nat.lt_irrefl zG decide_true decide_false Bool.false_eq_true
attribute [go_sem] Bool.true_eq_false forall_eq BEq.rfl beq_self_eq_true decide_eq_true_eq decide_eq_false_iff_not beq_iff_eq beq_eq_false_iff_ne bne_iff_ne bne_eq_false_iff_eq
attribute [go_sem] Bool.not_eq_true Bool.not_eq_false Bool.not_eq_true' Bool.not_eq_false' ycvi ycsf ycrl ybxd ybzn ybty ybvd ybxz ybvi
attribute [go_sem] ybzw ybli ycua yddc ycti ycad ybvc ybxy ybzy ybyr ybue ybmk ybjj ybsy ybkr yblj ybnf
attribute [go_sem] ybsz ydba ydbh yczn ybre ycqr ybyz ycug ycsb ycrk ycvz ycrh ydfn ydgt ydhg ydbt ydae ycwl ycxm ycys ydej
attribute [go_sem] yczg ydag ydao ydab ydda ybpb ycxi ybvt ycva ycrz yctl ycwr yctf
attribute [go_sem] yvs ybdk idxF ydax yrs yjz own1 yber Tel telL yyz ybqp ycsl ycuj ycry ybyu ybyo ybyb ybwr ycas ycal
attribute [go_sem] ybzf ybyh ydhc ydes ydfs ycxr ydbl yczo ydcd yday yddu ydef ydak lv nmem rid yfo yzv yxh ynl ynj yiq ynm
attribute [go_sem] yoc yob yny ycxo ynp yoj ydfr ydex ydgs ycyv ydcs ycwn ycyj ycyz ydcg yddm ydcq List.any_cons List.any_nil Option.isSome
attribute [go_sem] yctp or_false false_or or_true true_or false_and exists_const exists_false List.not_mem_nil and_false
attribute [go_sem ↓] gb_t gb_f ydhh ydgo
end Sh
end
section
namespace Sh
open Go Ev
def ycis:LO:=[o3 (.mv (ci' 0)) 4 0]
def yckm:LO:=[mv' 0 6 0,ln' 6 7 1,o3 (.mv (ci' 0)) 8 0]
def ycdh:LO:=[bn' .lss 8 7 9 0]
def yclm:LO:=[mv' 8 10 0,mv' 10 5 1]
def ycor:LO:=[mv' 1 11 0,mv' 0 12 0,mv' 5 13 0,ix' 1 12 13 14 6,ld' false 1 14 15 14,bn' .eql 11 15 16 31]
def yclk:LO:=[mv' 5 17 0,mv' 17 4 1]
def ycmk:LO:=[o3 (.bin .add (.tmp 8) (ci' 1)) 18 0,mv' 18 8 1]
def ycdk:LO:=[o3 (.mv (.const (.int .i64 (-1)))) 4 0]
def c165:SC:=(.seq (.reg false ycis) (.seq (.seq (.reg false yckm) (.block 0 (.loop (.seq (.reg false ycdh) (.seq (.cond (.tmp 9) .skip (.exit 0)) (.seq (.block 1 (.seq (.reg false yclm) (.seq (.reg false ycor) (.cond (.tmp 16) (.seq (.reg false yclk) .ret) .skip)))) (.reg false ycmk))))))) (.seq (.reg false ycdk) .ret)))
theorem ycxc:Fn 165 c165 [.t 4]:=fn_0 Tryz.func165 (by kernel_rfl) (by kernel_rfl)
def yccr:LO:=[o3 (.mv (ci' 0)) 2 0]
def yclv:LO:=[mv' 0 5 0,ln' 5 6 1,o3 (.bin .lss (.tmp 6) (ci' 1)) 7 3]
def ycnw:LO:=[o3 (.no) 8 0,o0 (.no) 1]
def ycow:LO:=[mv' 0 9 0,o3 (.idx 1 (.tmp 9) (ci' 0)) 10 1,ld' false 1 10 11 3,mv' 11 3 7]
def yckw:LO:=[o3 (.mv (ci' 1)) 4 0]
def ycix:LO:=[mv' 4 12 0,mv' 0 13 0,ln' 13 14 2,bn' .lss 12 14 15 7]
def ycgt:LO:=[mv' 3 18 0,mv' 0 19 0,mv' 4 20 0,ix' 1 19 20 21 6,ld' false 1 21 22 14,o3 (.mm true (.tmp 18) (.tmp 22)) 23 31,mv' 23 3 63]
def yccf:LO:=[mv' 4 16 0,o3 (.bin .add (.tmp 16) (ci' 1)) 17 1,mv' 17 4 3]
def yckn:LO:=[mv' 3 24 0,mv' 24 2 1]
def c160:SC:=(.seq (.reg false yccr) (.seq (.seq (.reg false yclv) (.cond (.tmp 7) (.reg false ycnw) .skip)) (.seq (.reg false ycow) (.seq (.seq (.reg false yckw) (.block 0 (.loop (.seq (.seq (.reg false ycix) (.cond (.tmp 15) .skip (.exit 0))) (.seq (.block 1 (.reg false ycgt)) (.reg false yccf)))))) (.seq (.reg false yckn) .ret)))))
theorem ycqv:Fn 160 c160 [.t 2]:=fn_0 Tryz.func160 (by kernel_rfl) (by kernel_rfl)
def ycdt:LO:=[o3 (.mv (.const (.bool false))) 4 0]
def ycdm:LO:=[mv' 0 5 0,mv' 1 6 0,cl' 165 [5,6] 7 3,o3 (.bin .geq (.tmp 7) (ci' 0)) 8 7,mv' 8 4 15]
def c274:SC:=(.seq (.reg false ycdt) (.seq (.reg false ycdm) .ret))
theorem ycty:Fn 274 c274 [.t 4]:=fn_0 Tryz.func274 (by kernel_rfl) (by kernel_rfl)
def ycdx:LO:=[o3 (.mv (ci' 0)) 4 0]
def ycmv:LO:=[mv' 0 6 0,ln' 6 7 1,o3 (.mv (ci' 0)) 8 0]
def ychp:LO:=[bn' .lss 8 7 9 0]
def yclb:LO:=[mv' 8 10 0,mv' 10 5 1]
def ycnh:LO:=[mv' 1 11 0,mv' 0 12 0,mv' 5 13 0,ix' 1 12 13 14 6,ld' false 1 14 15 14,o3 (.call (.tmp 11) [(.tmp 15)]) 16 31]
def ycib:LO:=[mv' 5 17 0,mv' 17 4 1]
def ycgn:LO:=[o3 (.bin .add (.tmp 8) (ci' 1)) 18 0,mv' 18 8 1]
def ycbd:LO:=[o3 (.mv (.const (.int .i64 (-1)))) 4 0]
def c267:SC:=(.seq (.reg false ycdx) (.seq (.seq (.reg false ycmv) (.block 0 (.loop (.seq (.reg false ychp) (.seq (.cond (.tmp 9) .skip (.exit 0)) (.seq (.block 1 (.seq (.reg false yclb) (.seq (.reg false ycnh) (.cond (.tmp 16) (.seq (.reg false ycib) .ret) .skip)))) (.reg false ycgn))))))) (.seq (.reg false ycbd) .ret)))
theorem ycuz:Fn 267 c267 [.t 4]:=fn_0 Tryz.func267 (by kernel_rfl) (by kernel_rfl)
def yckd:LO:=[o3 (.mv (ci' 0)) 2 0]
def ycjm:LO:=[mv' 0 4 0,o3 (.bin .lss (.tmp 4) (ci' 1)) 5 1,mv' 5 6 3,⟨.mv (.tmp 0),some 7,some (6,false),7⟩,⟨.bin .gtr (.tmp 7) (ci' 43),some 8,some (6,false),15⟩,o3 (.pick (.tmp 6) (.const (.bool true)) (.tmp 8)) 9 31,mv' 9 3 63]
def ycge:LO:=[o3 (.mv (.const (.int .i64 (-1)))) 2 0]
def ycli:LO:=[mv' 0 11 0,o3 (.bin .leq (.tmp 11) (ci' 17)) 12 1,mv' 12 10 3]
def ycbr:LO:=[o3 (.mv (ci' 0)) 2 0]
def ycqd:LO:=[mv' 0 14 0,o3 (.bin .leq (.tmp 14) (ci' 29)) 15 1,mv' 15 13 3]
def ycek:LO:=[o3 (.mv (ci' 1)) 2 0]
def yciz:LO:=[mv' 0 17 0,o3 (.bin .leq (.tmp 17) (ci' 42)) 18 1,mv' 18 16 3]
def ycej:LO:=[o3 (.mv (ci' 2)) 2 0]
def ycij:LO:=[o3 (.mv (ci' 3)) 2 0]
def c247:SC:=(.seq (.reg false yckd) (.seq (.block 0 (.seq (.reg false ycjm) (.cond (.tmp 3) (.seq (.reg false ycge) .ret) (.seq (.reg false ycli) (.cond (.tmp 10) (.seq (.reg false ycbr) .ret) (.seq (.reg false ycqd) (.cond (.tmp 13) (.seq (.reg false ycek) .ret) (.seq (.reg false yciz) (.cond (.tmp 16) (.seq (.reg false ycej) .ret) .skip))))))))) (.seq (.reg false ycij) .ret)))
theorem ycra:Fn 247 c247 [.t 2]:=fn_0 Tryz.func247 (by kernel_rfl) (by kernel_rfl)
def ycla:LO:=[o3 (.mv (ci' 0)) 4 0]
def ycic:LO:=[mv' 1 7 0,o3 (.bin .lss (.tmp 7) (ci' 0)) 8 1,mv' 8 9 3,⟨.mv (.tmp 1),some 10,some (9,false),7⟩,⟨.mv (.tmp 0),some 11,some (9,false),7⟩,⟨.len (.tmp 11),some 12,some (9,false),23⟩,⟨.bin .geq (.tmp 10) (.tmp 12),some 13,some (9,false),63⟩,o3 (.pick (.tmp 9) (.const (.bool true)) (.tmp 13)) 14 127]
def yceg:LO:=[o3 (.mv (.const (.int .i64 (-1)))) 4 0]
def yclo:LO:=[o3 (.mv (ci' 1)) 5 0]
def ycby:LO:=[mv' 1 15 0,mv' 0 16 0,ln' 16 17 2,bn' .lss 15 17 18 7]
def ycbl:LO:=[mv' 0 21 0,mv' 1 22 0,ix' 2 21 22 23 3,fa' 0 1 23 24 7,ld' false 1 24 25 15,cl' 247 [25] 26 31,mv' 26 6 63]
def ycgg:LO:=[mv' 6 27 0,o3 (.bin .lss (.tmp 27) (ci' 0)) 28 1]
def ychz:LO:=[o3 (.mv (.const (.int .i64 (-1)))) 4 0]
def ycfm:LO:=[mv' 5 29 0,mv' 6 30 0,o3 (.bin .sub (.tmp 30) (ci' 1)) 31 2,bn' .add 29 31 32 7,mv' 32 5 15]
def yblm:LO:=[mv' 5 33 0,o3 (.bin .eql (.tmp 33) (ci' 0)) 34 1]
def ybni:LO:=[mv' 1 35 0,o3 (.bin .add (.tmp 35) (ci' 1)) 36 1,mv' 36 4 3]
def yciy:LO:=[mv' 1 19 0,o3 (.bin .add (.tmp 19) (ci' 1)) 20 1,mv' 20 1 3]
def ybmu:LO:=[o3 (.mv (.const (.int .i64 (-1)))) 4 0]
def c231:SC:=(.seq (.reg false ycla) (.seq (.seq (.reg false ycic) (.cond (.tmp 14) (.seq (.reg false yceg) .ret) .skip)) (.seq (.seq (.reg false yclo) (.block 0 (.loop (.seq (.seq (.reg false ycby) (.cond (.tmp 18) .skip (.exit 0))) (.seq (.block 1 (.seq (.reg false ycbl) (.seq (.seq (.reg false ycgg) (.cond (.tmp 28) (.seq (.reg false ychz) .ret) .skip)) (.seq (.reg false ycfm) (.seq (.reg false yblm) (.cond (.tmp 34) (.seq (.reg false ybni) .ret) .skip)))))) (.reg false yciy)))))) (.seq (.reg false ybmu) .ret))))
theorem ycqs:Fn 231 c231 [.t 4]:=fn_0 Tryz.func231 (by kernel_rfl) (by kernel_rfl)
def ycgw:LO:=[o3 (.box 27 (.tmp 0)) 3 0,o3 (.mv (ci' 0)) 6 0]
def ycgl:LO:=[fa' 1 1 3 9 0,ld' false 1 9 10 1,mv' 1 11 0,ix' 1 10 11 12 7,ld' false 1 12 13 15,ln' 13 14 31,o3 (.mv (ci' 0)) 15 0]
def ycbj:LO:=[bn' .lss 15 14 16 0]
def yckb:LO:=[mv' 15 17 0,ix' 2 13 15 18 0,ld' true 2 18 19 2,o3 (.alloc 95 1 [.i .i64 0,.i .i64 0]) 8 0,mv' 17 7 15,o0 (.store 2 (.tmp 8) (.tmp 19)) 31]
def yciw:LO:=[fa' 0 1 8 20 0,ld' false 1 20 21 1,mv' 2 22 0,bn' .eql 21 22 23 7]
def ycoy:LO:=[mv' 7 24 0,mv' 24 6 1]
def ycpp:LO:=[o3 (.bin .add (.tmp 15) (ci' 1)) 25 0,mv' 25 15 1]
def ycfb:LO:=[o3 (.mv (.const (.int .i64 (-1)))) 6 0]
def c170:SC:=(.seq (.reg false ycgw) (.seq (.seq (.reg false ycgl) (.block 0 (.loop (.seq (.reg false ycbj) (.seq (.cond (.tmp 16) .skip (.exit 0)) (.seq (.block 1 (.seq (.reg false yckb) (.seq (.reg false yciw) (.cond (.tmp 23) (.seq (.reg false ycoy) .ret) .skip)))) (.reg false ycpp))))))) (.seq (.reg false ycfb) .ret)))
theorem ycrs:Fn 170 c170 [.t 6]:=fn_0 Tryz.func170 (by kernel_rfl) (by kernel_rfl)
def ycnm:LO:=[o3 (.box 27 (.tmp 0)) 1 0,o3 (.mv (.const (.int .u32 0))) 2 0]
def ycjx:LO:=[fa' 0 1 1 3 0,ld' false 1 3 4 1,ln' 4 5 3,o3 (.bin .shl (.const (.int .u32 1)) (.tmp 5)) 6 7,o3 (.bin .sub (.tmp 6) (.const (.int .u32 1))) 7 15,mv' 7 2 31]
def c109:SC:=(.seq (.reg false ycnm) (.seq (.reg false ycjx) .ret))
theorem ycqx:Fn 109 c109 [.t 2]:=fn_0 Tryz.func109 (by kernel_rfl) (by kernel_rfl)
def ycjo:LO:=[o3 (.mv (ci' 0)) 2 0]
def ycms:LO:=[mv' 0 3 0]
def yceq:LO:=[o3 (.mv (ci' 1)) 2 0]
def ycjz:LO:=[o3 (.mv (ci' 0)) 2 0]
def c256:SC:=(.seq (.reg false ycjo) (.seq (.seq (.reg false ycms) (.cond (.tmp 3) (.seq (.reg false yceq) .ret) .skip)) (.seq (.reg false ycjz) .ret)))
theorem ycwv:Fn 256 c256 [.t 2]:=fn_0 Tryz.func256 (by kernel_rfl) (by kernel_rfl)
def ycqa:LO:=[o3 (.mv (ci' 0)) 2 0]
def ycpq:LO:=[mv' 0 3 0,o3 (.mm false (.tmp 3) (ci' 1073741824)) 4 1,o3 (.mm true (.const (.int .i64 (-1073741824))) (.tmp 4)) 5 3,mv' 5 2 7]
def c258:SC:=(.seq (.reg false ycqa) (.seq (.reg false ycpq) .ret))
theorem ycts:Fn 258 c258 [.t 2]:=fn_0 Tryz.func258 (by kernel_rfl) (by kernel_rfl)
def yccv:LO:=[o3 (.mv (ci' 0)) 4 0]
def ychu:LO:=[mv' 0 5 0,o3 (.bin .eql (.tmp 5) (ci' 18)) 6 1]
def ycdj:LO:=[mv' 1 7 0,o3 (.un .neg (.tmp 7)) 8 1,mv' 8 4 3]
def ycot:LO:=[mv' 1 9 0,o3 (.bin .eql (.tmp 9) (ci' 0)) 10 1,cl' 256 [10] 11 3,mv' 11 4 7]
def c237:SC:=(.seq (.reg false yccv) (.seq (.seq (.reg false ychu) (.cond (.tmp 6) (.seq (.reg false ycdj) .ret) .skip)) (.seq (.reg false ycot) .ret)))
theorem ycqo:Fn 237 c237 [.t 4]:=fn_0 Tryz.func237 (by kernel_rfl) (by kernel_rfl)
def ychy:LO:=[o3 (.mv (ci' 0)) 6 0]
def ycjp:LO:=[mv' 0 7 0]
def ycjg:LO:=[o3 (.bin .eql (.tmp 7) (ci' 30)) 9 0,mv' 9 8 1]
def ycnf:LO:=[mv' 1 10 0,mv' 2 11 0,bn' .mul 10 11 12 3,cl' 258 [12] 13 7,mv' 13 6 15]
def ychm:LO:=[o3 (.bin .eql (.tmp 7) (ci' 31)) 15 0,mv' 15 14 1]
def ycgk:LO:=[mv' 1 16 0,mv' 2 17 0,cl' 259 [16,17] 18 3,cl' 258 [18] 19 7,mv' 19 6 15]
def ycey:LO:=[o3 (.bin .eql (.tmp 7) (ci' 32)) 21 0,mv' 21 20 1]
def ycpm:LO:=[mv' 2 22 0,o3 (.bin .eql (.tmp 22) (ci' 0)) 23 1]
def ycgb:LO:=[o3 (.mv (ci' 0)) 6 0]
def ycof:LO:=[mv' 1 24 0,mv' 2 25 0,mv' 1 26 0,mv' 2 27 0,cl' 259 [26,27] 28 12,bn' .mul 25 28 29 30,bn' .sub 24 29 30 63,cl' 258 [30] 31 127,mv' 31 6 255]
def ybun:LO:=[o3 (.bin .eql (.tmp 7) (ci' 33)) 33 0,mv' 33 32 1]
def ybrb:LO:=[mv' 1 34 0,mv' 2 35 0,bn' .add 34 35 36 3,cl' 258 [36] 37 7,mv' 37 6 15]
def ybva:LO:=[o3 (.bin .eql (.tmp 7) (ci' 34)) 39 0,mv' 39 38 1]
def yblt:LO:=[mv' 1 40 0,mv' 2 41 0,bn' .sub 40 41 42 3,cl' 258 [42] 43 7,mv' 43 6 15]
def ybud:LO:=[o3 (.bin .eql (.tmp 7) (ci' 41)) 45 0,mv' 45 44 1]
def yboh:LO:=[mv' 1 46 0,o3 (.bin .neq (.tmp 46) (ci' 0)) 47 1,mv' 47 48 3,⟨.mv (.tmp 2),some 49,some (48,true),7⟩,⟨.bin .neq (.tmp 49) (ci' 0),some 50,some (48,true),15⟩,o3 (.pick (.tmp 48) (.tmp 50) (.const (.bool false))) 51 31,cl' 256 [51] 52 63,mv' 52 6 127]
def ybpo:LO:=[o3 (.bin .eql (.tmp 7) (ci' 42)) 54 0,mv' 54 53 1]
def ybme:LO:=[mv' 1 55 0,o3 (.bin .neq (.tmp 55) (ci' 0)) 56 1,mv' 56 57 3,⟨.mv (.tmp 2),some 58,some (57,false),7⟩,⟨.bin .neq (.tmp 58) (ci' 0),some 59,some (57,false),15⟩,o3 (.pick (.tmp 57) (.const (.bool true)) (.tmp 59)) 60 31,cl' 256 [60] 61 63,mv' 61 6 127]
def ybqh:LO:=[mv' 0 62 0,mv' 1 63 0,mv' 2 64 0,cl' 260 [62,63,64] 65 7,cl' 256 [65] 66 15,mv' 66 6 31]
def c239:SC:=(.seq (.reg false ychy) (.seq (.seq (.reg false ycjp) (.block 0 (.seq (.reg false ycjg) (.cond (.tmp 8) (.seq (.reg false ycnf) .ret) (.seq (.reg false ychm) (.cond (.tmp 14) (.seq (.reg false ycgk) .ret) (.seq (.reg false ycey) (.cond (.tmp 20) (.seq (.seq (.reg false ycpm) (.cond (.tmp 23) (.seq (.reg false ycgb) .ret) .skip)) (.seq (.reg false ycof) .ret)) (.seq (.reg false ybun) (.cond (.tmp 32) (.seq (.reg false ybrb) .ret) (.seq (.reg false ybva) (.cond (.tmp 38) (.seq (.reg false yblt) .ret) (.seq (.reg false ybud) (.cond (.tmp 44) (.seq (.reg false yboh) .ret) (.seq (.reg false ybpo) (.cond (.tmp 53) (.seq (.reg false ybme) .ret) .skip)))))))))))))))) (.seq (.reg false ybqh) .ret)))
theorem ycrv:Fn 239 c239 [.t 6]:=fn_0 Tryz.func239 (by kernel_rfl) (by kernel_rfl)
def ycne:LO:=[o3 (.mv (ci' 0)) 4 0]
def ycev:LO:=[mv' 1 6 0,o3 (.bin .eql (.tmp 6) (ci' 0)) 7 1]
def ycob:LO:=[o3 (.mv (ci' 0)) 4 0]
def ycle:LO:=[mv' 0 8 0,mv' 1 9 0,bn' .quo 8 9 10 3,mv' 10 5 7]
def yccl:LO:=[mv' 0 11 0,mv' 1 12 0,bn' .rem 11 12 13 3,o3 (.bin .neq (.tmp 13) (ci' 0)) 14 7,mv' 14 15 15,⟨.mv (.tmp 0),some 16,some (15,true),31⟩,⟨.bin .lss (.tmp 16) (ci' 0),some 17,some (15,true),63⟩,⟨.mv (.tmp 1),some 18,some (15,true),31⟩,⟨.bin .lss (.tmp 18) (ci' 0),some 19,some (15,true),159⟩,⟨.beq true (.tmp 17) (.tmp 19),some 20,some (15,true),511⟩,o3 (.pick (.tmp 15) (.tmp 20) (.const (.bool false))) 21 1023]
def ycmj:LO:=[mv' 5 22 0,o3 (.bin .sub (.tmp 22) (ci' 1)) 23 1,mv' 23 5 3]
def ycpr:LO:=[mv' 5 24 0,mv' 24 4 1]
def c259:SC:=(.seq (.reg false ycne) (.seq (.seq (.reg false ycev) (.cond (.tmp 7) (.seq (.reg false ycob) .ret) .skip)) (.seq (.reg false ycle) (.seq (.seq (.reg false yccl) (.cond (.tmp 21) (.reg false ycmj) .skip)) (.seq (.reg false ycpr) .ret)))))
theorem ycqw:Fn 259 c259 [.t 4]:=fn_0 Tryz.func259 (by kernel_rfl) (by kernel_rfl)
def ycbq:LO:=[o3 (.mv (.const (.bool false))) 6 0]
def ycmc:LO:=[mv' 0 7 0]
def ycbf:LO:=[o3 (.bin .eql (.tmp 7) (ci' 35)) 9 0,mv' 9 8 1]
def ycln:LO:=[mv' 1 10 0,mv' 2 11 0,bn' .eql 10 11 12 3,mv' 12 6 7]
def ycny:LO:=[o3 (.bin .eql (.tmp 7) (ci' 36)) 14 0,mv' 14 13 1]
def ycjf:LO:=[mv' 1 15 0,mv' 2 16 0,bn' .neq 15 16 17 3,mv' 17 6 7]
def yciu:LO:=[o3 (.bin .eql (.tmp 7) (ci' 37)) 19 0,mv' 19 18 1]
def ycdw:LO:=[mv' 1 20 0,mv' 2 21 0,bn' .lss 20 21 22 3,mv' 22 6 7]
def ycgu:LO:=[o3 (.bin .eql (.tmp 7) (ci' 38)) 24 0,mv' 24 23 1]
def ycie:LO:=[mv' 1 25 0,mv' 2 26 0,bn' .leq 25 26 27 3,mv' 27 6 7]
def ybpn:LO:=[o3 (.bin .eql (.tmp 7) (ci' 39)) 29 0,mv' 29 28 1]
def ybtp:LO:=[mv' 1 30 0,mv' 2 31 0,bn' .gtr 30 31 32 3,mv' 32 6 7]
def ybru:LO:=[mv' 1 33 0,mv' 2 34 0,bn' .geq 33 34 35 3,mv' 35 6 7]
def c260:SC:=(.seq (.reg false ycbq) (.seq (.seq (.reg false ycmc) (.block 0 (.seq (.reg false ycbf) (.cond (.tmp 8) (.seq (.reg false ycln) .ret) (.seq (.reg false ycny) (.cond (.tmp 13) (.seq (.reg false ycjf) .ret) (.seq (.reg false yciu) (.cond (.tmp 18) (.seq (.reg false ycdw) .ret) (.seq (.reg false ycgu) (.cond (.tmp 23) (.seq (.reg false ycie) .ret) (.seq (.reg false ybpn) (.cond (.tmp 28) (.seq (.reg false ybtp) .ret) .skip)))))))))))) (.seq (.reg false ybru) .ret)))
theorem ycvc:Fn 260 c260 [.t 6]:=fn_0 Tryz.func260 (by kernel_rfl) (by kernel_rfl)
def ycpl:LO:=[o3 (.mv (ci' 0)) 4 0]
def ycmd:LO:=[mv' 0 15 0]
def yclg:LO:=[o3 (.bin .eql (.tmp 15) (ci' 20)) 17 0,mv' 17 16 1]
def ycll:LO:=[mv' 1 18 0,cl' 266 [18] 19 1,mv' 1 20 0,ln' 20 21 4,bn' .eql 19 21 22 15,cl' 256 [22] 23 31,mv' 23 4 63]
def ycoq:LO:=[o3 (.bin .eql (.tmp 15) (ci' 21)) 25 0,mv' 25 24 1]
def ycol:LO:=[mv' 1 26 0,cl' 266 [26] 27 1,o3 (.bin .gtr (.tmp 27) (ci' 0)) 28 3,cl' 256 [28] 29 7,mv' 29 4 15]
def ychx:LO:=[o3 (.bin .eql (.tmp 15) (ci' 22)) 31 0,mv' 31 30 1]
def ycov:LO:=[mv' 1 32 0,cl' 266 [32] 33 1,mv' 33 4 3]
def ycfj:LO:=[o3 (.bin .eql (.tmp 15) (ci' 23)) 35 0,mv' 35 34 1]
def yclp:LO:=[mv' 1 36 0,o3 (.call (.func 267) [(.tmp 36),(.func 268)]) 37 1,mv' 37 4 3]
def ybro:LO:=[o3 (.bin .eql (.tmp 15) (ci' 24)) 39 0,mv' 39 38 1]
def ybse:LO:=[o3 (.mv (ci' 1073741824)) 5 0]
def ybmz:LO:=[mv' 1 40 0,ln' 40 41 1,o3 (.mv (ci' 0)) 42 0]
def ybpe:LO:=[bn' .lss 42 41 43 0]
def ybtj:LO:=[ix' 1 40 42 44 0,ld' false 1 44 45 1,mv' 45 7 3]
def ybpt:LO:=[mv' 5 46 0,mv' 7 47 0,o3 (.mm false (.tmp 46) (.tmp 47)) 48 3,mv' 48 5 7]
def ybms:LO:=[o3 (.bin .add (.tmp 42) (ci' 1)) 49 0,mv' 49 42 1]
def ybrg:LO:=[mv' 5 50 0,mv' 50 4 1]
def ybsm:LO:=[o3 (.bin .eql (.tmp 15) (ci' 25)) 52 0,mv' 52 51 1]
def ybts:LO:=[mv' 1 54 0,cl' 269 [54] 55 1,mv' 55 53 3,xt' 53 0 56 7,xt' 53 1 57 7,mv' 56 8 15,mv' 57 9 63]
def ybrv:LO:=[mv' 8 58 0,mv' 58 4 1]
def ybnn:LO:=[o3 (.bin .eql (.tmp 15) (ci' 26)) 60 0,mv' 60 59 1]
def ybkt:LO:=[o3 (.mv (ci' 0)) 10 0]
def ybqz:LO:=[mv' 1 61 0,ln' 61 62 1,o3 (.mv (ci' 0)) 63 0]
def ybrx:LO:=[bn' .lss 63 62 64 0]
def ybol:LO:=[ix' 1 61 63 65 0,ld' false 1 65 66 1,mv' 66 12 3]
def ybqq:LO:=[mv' 10 67 0,mv' 12 68 0,bn' .add 67 68 69 3,mv' 69 10 7]
def ybpp:LO:=[o3 (.bin .add (.tmp 63) (ci' 1)) 70 0,mv' 70 63 1]
def ybny:LO:=[mv' 10 71 0,cl' 258 [71] 72 1,mv' 72 4 3]
def ybnm:LO:=[o3 (.bin .eql (.tmp 15) (ci' 27)) 74 0,mv' 74 73 1]
def ybsh:LO:=[mv' 1 75 0,cl' 270 [75] 76 1,mv' 76 4 3]
def ybst:LO:=[o3 (.bin .eql (.tmp 15) (ci' 28)) 78 0,mv' 78 77 1]
def ybmf:LO:=[mv' 1 80 0,cl' 269 [80] 81 1,mv' 81 79 3,xt' 79 0 82 7,xt' 79 1 83 7,mv' 82 13 15,mv' 83 14 63]
def yblp:LO:=[mv' 14 84 0,mv' 84 4 1]
def ybnx:LO:=[mv' 1 85 0,ln' 85 86 1,o3 (.bin .eql (.tmp 86) (ci' 0)) 87 3]
def ybld:LO:=[o3 (.mv (ci' 0)) 4 0]
def ybtq:LO:=[mv' 1 88 0,o3 (.idx 1 (.tmp 88) (ci' 0)) 89 1,ld' false 1 89 90 3,mv' 90 4 7]
def c257:SC:=(.seq (.reg false ycpl) (.seq (.seq (.reg false ycmd) (.block 0 (.seq (.reg false yclg) (.cond (.tmp 16) (.seq (.reg false ycll) .ret) (.seq (.reg false ycoq) (.cond (.tmp 24) (.seq (.reg false ycol) .ret) (.seq (.reg false ychx) (.cond (.tmp 30) (.seq (.reg false ycov) .ret) (.seq (.reg false ycfj) (.cond (.tmp 34) (.seq (.reg false yclp) .ret) (.seq (.reg false ybro) (.cond (.tmp 38) (.seq (.reg false ybse) (.seq (.seq (.reg false ybmz) (.block 1 (.loop (.seq (.reg false ybpe) (.seq (.cond (.tmp 43) .skip (.exit 1)) (.seq (.block 2 (.seq (.reg false ybtj) (.reg false ybpt))) (.reg false ybms))))))) (.seq (.reg false ybrg) .ret))) (.seq (.reg false ybsm) (.cond (.tmp 51) (.seq (.reg false ybts) (.seq (.reg false ybrv) .ret)) (.seq (.reg false ybnn) (.cond (.tmp 59) (.seq (.reg false ybkt) (.seq (.seq (.reg false ybqz) (.block 3 (.loop (.seq (.reg false ybrx) (.seq (.cond (.tmp 64) .skip (.exit 3)) (.seq (.block 4 (.seq (.reg false ybol) (.reg false ybqq))) (.reg false ybpp))))))) (.seq (.reg false ybny) .ret))) (.seq (.reg false ybnm) (.cond (.tmp 73) (.seq (.reg false ybsh) .ret) (.seq (.reg false ybst) (.cond (.tmp 77) (.seq (.reg false ybmf) (.seq (.reg false yblp) .ret)) .skip)))))))))))))))))))) (.seq (.seq (.reg false ybnx) (.cond (.tmp 87) (.seq (.reg false ybld) .ret) .skip)) (.seq (.reg false ybtq) .ret))))
theorem ycrn:Fn 257 c257 [.t 4]:=fn_0 Tryz.func257 (by kernel_rfl) (by kernel_rfl)
def ycpi:LO:=[o3 (.mv (.const (.bool false))) 2 0]
def ycgm:LO:=[mv' 0 3 0,o3 (.bin .neq (.tmp 3) (ci' 0)) 4 1,mv' 4 2 3]
def c268:SC:=(.seq (.reg false ycpi) (.seq (.reg false ycgm) .ret))
theorem ycsq:Fn 268 c268 [.t 2]:=fn_0 Tryz.func268 (by kernel_rfl) (by kernel_rfl)
def ycjv:LO:=[o3 (.mv (ci' 0)) 2 0]
def ycpu:LO:=[o3 (.mv (ci' 0)) 3 0]
def ycfa:LO:=[mv' 0 6 0,ln' 6 7 1,o3 (.mv (ci' 0)) 8 0]
def ychw:LO:=[bn' .lss 8 7 9 0]
def ycoj:LO:=[ix' 1 6 8 10 0,ld' false 1 10 11 1,mv' 11 5 3]
def ycih:LO:=[mv' 5 12 0,o3 (.bin .neq (.tmp 12) (ci' 0)) 13 1]
def ychs:LO:=[mv' 3 14 0,o3 (.bin .add (.tmp 14) (ci' 1)) 15 1,mv' 15 3 3]
def ycgf:LO:=[o3 (.bin .add (.tmp 8) (ci' 1)) 16 0,mv' 16 8 1]
def ycgi:LO:=[mv' 3 17 0,mv' 17 2 1]
def c266:SC:=(.seq (.reg false ycjv) (.seq (.reg false ycpu) (.seq (.seq (.reg false ycfa) (.block 0 (.loop (.seq (.reg false ychw) (.seq (.cond (.tmp 9) .skip (.exit 0)) (.seq (.block 1 (.seq (.reg false ycoj) (.seq (.reg false ycih) (.cond (.tmp 13) (.reg false ychs) .skip)))) (.reg false ycgf))))))) (.seq (.reg false ycgi) .ret))))
theorem yctz:Fn 266 c266 [.t 2]:=fn_0 Tryz.func266 (by kernel_rfl) (by kernel_rfl)
def yclw:LO:=[o3 (.mv (ci' 0)) 2 0,o3 (.mv (ci' 0)) 3 1]
def ycmt:LO:=[o3 (.mv (.const (.int .i64 (-1073741824)))) 2 0,o3 (.mv (.const (.int .i64 (-1073741824)))) 3 1]
def ycgx:LO:=[mv' 0 6 0,ln' 6 7 1,o3 (.mv (ci' 0)) 8 0]
def ycef:LO:=[bn' .lss 8 7 9 0]
def ycbw:LO:=[ix' 1 6 8 10 0,ld' false 1 10 11 1,mv' 11 5 3]
def ycdg:LO:=[mv' 5 12 0,mv' 2 13 0,bn' .gtr 12 13 14 3]
def ycik:LO:=[mv' 5 15 0,mv' 2 16 0,mv' 15 2 3,mv' 16 3 7]
def ycdd:LO:=[mv' 3 17 0,mv' 5 18 0,o3 (.mm true (.tmp 17) (.tmp 18)) 19 3,mv' 19 3 7]
def yceu:LO:=[o3 (.bin .add (.tmp 8) (ci' 1)) 20 0,mv' 20 8 1]
def yccq:LO:=[mv' 2 21 0,mv' 3 22 0,mv' 21 2 1,mv' 22 3 7]
def c269:SC:=(.seq (.reg false yclw) (.seq (.reg false ycmt) (.seq (.seq (.reg false ycgx) (.block 0 (.loop (.seq (.reg false ycef) (.seq (.cond (.tmp 9) .skip (.exit 0)) (.seq (.block 1 (.seq (.reg false ycbw) (.seq (.reg false ycdg) (.cond (.tmp 14) (.reg false ycik) (.reg false ycdd))))) (.reg false yceu))))))) (.seq (.reg false yccq) .ret))))
theorem ycwx:Fn 269 c269 [.t 2,.t 3]:=fn_0 Tryz.func269 (by kernel_rfl) (by kernel_rfl)
def ycfl:LO:=[o3 (.mv (ci' 0)) 2 0]
def ycni:LO:=[o3 (.mv (ci' 0)) 3 0]
def ycdu:LO:=[mv' 0 4 0,mv' 3 5 0,cl' 274 [4,5] 6 3]
def yclr:LO:=[mv' 3 7 0,o3 (.bin .add (.tmp 7) (ci' 1)) 8 1,mv' 8 3 3]
def ycfg:LO:=[mv' 3 9 0,mv' 9 2 1]
def c270:SC:=(.seq (.reg false ycfl) (.seq (.reg false ycni) (.seq (.block 0 (.loop (.seq (.seq (.reg false ycdu) (.cond (.tmp 6) .skip (.exit 0))) (.block 1 (.reg false yclr))))) (.seq (.reg false ycfg) .ret))))
theorem ycwm:Fn 270 c270 [.t 2]:=fn_0 Tryz.func270 (by kernel_rfl) (by kernel_rfl)
def ycem:LO:=[o3 (.box 58 (.tmp 0)) 2 0,o3 (.box 27 (.tmp 1)) 3 0,o3 (.mv (.const (.pointer none))) 4 0]
def ychk:LO:=[ld' true 3 2 10 0,ld' true 2 3 11 0,fa' 1 1 3 12 0,ld' false 1 12 13 4,ln' 13 14 12,o3 (.mk 22 1 24 [.a (.slice none 0 0)] (.tmp 14) (.tmp 14)) 15 28,o3 (.build [.a (.string (ByteArray.mk #[])),.a (.slice none 0 0),.a (.slice none 0 0),.a (.slice none 0 0),.a (.slice none 0 0),.i .i64 0,.a (.slice none 0 0)] [(0,3,(.tmp 10)),(3,2,(.tmp 11)),(6,1,(.tmp 15))]) 16 63,o3 (.box 170 (.tmp 16)) 17 127,mv' 17 5 255]
def ycja:LO:=[fa' 1 1 3 18 0,ld' false 1 18 19 1,ln' 19 20 3,o3 (.mv (ci' 0)) 21 0]
def ycpw:LO:=[bn' .lss 21 20 22 0]
def yckj:LO:=[mv' 21 23 0,ix' 1 19 21 24 0,ld' false 1 24 25 2,mv' 23 6 7,mv' 25 7 15]
def yccx:LO:=[mv' 5 26 0,mv' 5 27 0,o3 (.nilck (.tmp 27)) 28 2,fa' 5 1 28 29 6,ld' false 1 29 30 14,fa' 0 1 3 31 0,ld' false 1 31 32 32,mv' 6 33 0,ix' 1 32 33 34 224,ld' false 1 34 35 480,o3 (.mm true (.tmp 30) (.tmp 35)) 36 1022,o3 (.nilck (.tmp 26)) 37 2047,fa' 5 1 37 38 4095,o0 (.store 1 (.tmp 38) (.tmp 36)) 8191]
def ycjj:LO:=[mv' 7 39 0,ln' 39 40 1,o3 (.mv (ci' 0)) 41 0]
def ycig:LO:=[bn' .lss 41 40 42 0]
def ycka:LO:=[ix' 2 39 41 43 0,ld' true 2 43 44 1,o3 (.alloc 95 1 [.i .i64 0,.i .i64 0]) 9 0,o0 (.store 2 (.tmp 9) (.tmp 44)) 7]
def ycfo:LO:=[mv' 5 45 0,o3 (.nilck (.tmp 45)) 46 1,fa' 6 1 46 47 3,ld' false 1 47 48 7,mv' 6 49 0,mv' 5 50 0,o3 (.nilck (.tmp 50)) 51 32,fa' 6 1 51 52 96,ld' false 1 52 53 224,mv' 6 54 0,ix' 1 53 54 55 992,ld' false 1 55 56 2016,ld' true 2 3 57 0,fa' 0 1 9 58 0,ld' false 1 58 59 8192,mv' 6 60 0,cl' 170 [57,59,60] 61 61440,o3 (.bslice 3 1 1 [.i .i64 0] [(0,1,(.tmp 61))]) 62 126976,o3 (.app 3 1 8 (.tmp 56) (.tmp 62)) 63 262112,ix' 1 48 49 64 524287,o0 (.store 1 (.tmp 64) (.tmp 63)) 1048575]
def yboq:LO:=[o3 (.bin .add (.tmp 41) (ci' 1)) 65 0,mv' 65 41 1]
def ybmd:LO:=[o3 (.bin .add (.tmp 21) (ci' 1)) 66 0,mv' 66 21 1]
def ybnw:LO:=[mv' 5 67 0,mv' 67 4 1]
def c143:SC:=(.seq (.reg false ycem) (.seq (.reg true ychk) (.seq (.seq (.reg false ycja) (.block 0 (.loop (.seq (.reg false ycpw) (.seq (.cond (.tmp 22) .skip (.exit 0)) (.seq (.block 1 (.seq (.reg false yckj) (.seq (.reg true yccx) (.seq (.reg false ycjj) (.block 2 (.loop (.seq (.reg false ycig) (.seq (.cond (.tmp 42) .skip (.exit 2)) (.seq (.block 3 (.seq (.reg false ycka) (.reg true ycfo))) (.reg false yboq)))))))))) (.reg false ybmd))))))) (.seq (.reg false ybnw) .ret))))
theorem yctu:Fn 143 c143 [.t 4]:=fn_0 Tryz.func143 (by kernel_rfl) (by kernel_rfl)
def ycpe:LO:=[o3 (.mv (ci' 0)) 8 0]
def ycks:LO:=[mv' 1 10 0]
def ycog:LO:=[o3 (.bin .eql (.tmp 10) (ci' 6)) 12 0,mv' 12 11 1]
def ycnj:LO:=[mv' 0 13 0,o3 (.nilck (.tmp 13)) 14 1,fa' 3 2 14 15 3,fa' 0 1 15 16 7,ld' false 1 16 17 15,ln' 17 18 31,mv' 18 8 63]
def ycci:LO:=[o3 (.bin .eql (.tmp 10) (ci' 7)) 20 0,mv' 20 19 1]
def ycfx:LO:=[mv' 0 21 0,o3 (.nilck (.tmp 21)) 22 1,fa' 5 1 22 23 3,ld' false 1 23 24 7,mv' 24 8 15]
def ycgy:LO:=[o3 (.bin .eql (.tmp 10) (ci' 8)) 26 0,mv' 26 25 1]
def ycme:LO:=[mv' 0 27 0,o3 (.nilck (.tmp 27)) 28 1,fa' 3 2 28 29 3,fa' 0 1 29 30 7,ld' false 1 30 31 15,mv' 2 32 0,ix' 1 31 32 33 63,ld' false 1 33 34 127,mv' 34 8 255]
def ychg:LO:=[o3 (.bin .eql (.tmp 10) (ci' 9)) 36 0,mv' 36 35 1]
def ycgv:LO:=[mv' 0 37 0,o3 (.nilck (.tmp 37)) 38 1,fa' 3 2 38 39 3,fa' 1 1 39 40 7,ld' false 1 40 41 15,mv' 2 42 0,ix' 1 41 42 43 63,ld' false 1 43 44 127,ln' 44 45 255,mv' 45 8 511]
def yblq:LO:=[o3 (.bin .eql (.tmp 10) (ci' 10)) 47 0,mv' 47 46 1]
def ybsg:LO:=[mv' 2 48 0,o3 (.bin .eql (.tmp 48) (ci' 0)) 49 1,cl' 256 [49] 50 3,mv' 50 8 7]
def ybmy:LO:=[o3 (.bin .eql (.tmp 10) (ci' 11)) 52 0,mv' 52 51 1]
def ybrn:LO:=[mv' 3 53 0,mv' 53 8 1]
def yboe:LO:=[mv' 0 54 0,o3 (.nilck (.tmp 54)) 55 1,fa' 3 2 55 56 3,fa' 1 1 56 57 7,ld' false 1 57 58 15,mv' 2 59 0,ix' 1 58 59 60 63,ld' false 1 60 61 127,mv' 3 62 0,ix' 2 61 62 63 511,ld' true 2 63 64 1023,o3 (.alloc 95 1 [.i .i64 0,.i .i64 0]) 9 0,o0 (.store 2 (.tmp 9) (.tmp 64)) 4095]
def ybpa:LO:=[mv' 1 65 0]
def ybnd:LO:=[o3 (.bin .eql (.tmp 65) (ci' 13)) 67 0,mv' 67 66 1]
def ybmv:LO:=[mv' 0 68 0,o3 (.nilck (.tmp 68)) 69 1,fa' 3 2 69 70 3,fa' 0 1 70 71 7,ld' false 1 71 72 15,fa' 0 1 9 73 0,ld' false 1 73 74 32,ix' 1 72 74 75 127,ld' false 1 75 76 255,mv' 76 8 511]
def ybrq:LO:=[o3 (.bin .eql (.tmp 65) (ci' 14)) 78 0,mv' 78 77 1]
def ybop:LO:=[mv' 0 79 0,o3 (.nilck (.tmp 79)) 80 1,fa' 3 2 80 81 3,fa' 1 1 81 82 7,ld' false 1 82 83 15,fa' 0 1 9 84 0,ld' false 1 84 85 32,ix' 1 83 85 86 127,ld' false 1 86 87 255,ln' 87 88 511,mv' 88 8 1023]
def yblb:LO:=[o3 (.bin .eql (.tmp 65) (ci' 15)) 90 0,mv' 90 89 1]
def ybqs:LO:=[fa' 0 1 9 91 0,ld' false 1 91 92 1,o3 (.bin .eql (.tmp 92) (ci' 0)) 93 3,cl' 256 [93] 94 7,mv' 94 8 15]
def ybsu:LO:=[o3 (.bin .eql (.tmp 65) (ci' 16)) 96 0,mv' 96 95 1]
def ybpr:LO:=[fa' 1 1 9 97 0,ld' false 1 97 98 1,mv' 98 8 3]
def ybsx:LO:=[mv' 0 99 0,o3 (.nilck (.tmp 99)) 100 1,fa' 6 1 100 101 3,ld' false 1 101 102 7,mv' 2 103 0,ix' 1 102 103 104 31,ld' false 1 104 105 63,mv' 3 106 0,ix' 1 105 106 107 255,ld' false 1 107 108 511,mv' 108 8 1023]
def c255:SC:=(.seq (.reg false ycpe) (.seq (.seq (.reg false ycks) (.block 0 (.seq (.reg false ycog) (.cond (.tmp 11) (.seq (.reg false ycnj) .ret) (.seq (.reg false ycci) (.cond (.tmp 19) (.seq (.reg false ycfx) .ret) (.seq (.reg false ycgy) (.cond (.tmp 25) (.seq (.reg false ycme) .ret) (.seq (.reg false ychg) (.cond (.tmp 35) (.seq (.reg false ycgv) .ret) (.seq (.reg false yblq) (.cond (.tmp 46) (.seq (.reg false ybsg) .ret) (.seq (.reg false ybmy) (.cond (.tmp 51) (.seq (.reg false ybrn) .ret) .skip)))))))))))))) (.seq (.reg false yboe) (.seq (.seq (.reg false ybpa) (.block 1 (.seq (.reg false ybnd) (.cond (.tmp 66) (.seq (.reg true ybmv) .ret) (.seq (.reg false ybrq) (.cond (.tmp 77) (.seq (.reg true ybop) .ret) (.seq (.reg false yblb) (.cond (.tmp 89) (.seq (.reg false ybqs) .ret) (.seq (.reg false ybsu) (.cond (.tmp 95) (.seq (.reg false ybpr) .ret) .skip)))))))))) (.seq (.reg false ybsx) .ret)))))
theorem ycvw:Fn 255 c255 [.t 8]:=fn_0 Tryz.func255 (by kernel_rfl) (by kernel_rfl)
def ycfy:LO:=[o3 (.mv (ci' 0)) 8 0]
def ycee:LO:=[mv' 0 12 0,mv' 1 13 0,mv' 2 14 0,mv' 3 15 0,o3 (.build [.a (.pointer none),.a (.slice none 0 0),.i .i64 0,.a (.slice none 0 0)] [(0,1,(.tmp 12)),(1,1,(.tmp 13)),(2,1,(.tmp 14)),(3,1,(.tmp 15))]) 16 15,o3 (.alloc 228 1 [.a (.pointer none),.a (.slice none 0 0),.i .i64 0,.a (.slice none 0 0)]) 9 0,o0 (.store 4 (.tmp 9) (.tmp 16)) 63]
def ycjs:LO:=[o3 (.call (.func 220) [(.tmp 9),(ci' 0),(.const (.int .i64 (-1)))]) 18 0,mv' 18 17 1,xt' 17 0 19 3,xt' 17 1 20 3,mv' 19 10 7,mv' 20 11 31]
def ycpz:LO:=[mv' 10 21 0,mv' 21 8 1]
def c193:SC:=(.seq (.reg false ycfy) (.seq (.reg false ycee) (.seq (.reg false ycjs) (.seq (.reg false ycpz) .ret))))
theorem ycwj:Fn 193 c193 [.t 8]:=fn_0 Tryz.func193 (by kernel_rfl) (by kernel_rfl)
def ycok:LO:=[o3 (.mv (.const (.bool false))) 8 0]
def ycqc:LO:=[mv' 0 9 0,mv' 1 10 0,mv' 2 11 0,mv' 0 12 0,o3 (.nilck (.tmp 12)) 13 8,fa' 0 3 13 14 24,fa' 2 1 14 15 56,ld' false 1 15 16 120,mv' 3 17 0,ix' 3 16 17 18 504,fa' 1 1 18 19 1016,ld' false 1 19 20 2040,cl' 193 [9,10,11,20] 21 4095,o3 (.bin .neq (.tmp 21) (ci' 0)) 22 8191,mv' 22 8 16383]
def c172:SC:=(.seq (.reg false ycok) (.seq (.reg false ycqc) .ret))
theorem ycrx:Fn 172 c172 [.t 8]:=fn_0 Tryz.func172 (by kernel_rfl) (by kernel_rfl)
def yti:LO:=[o3 (.mv (ci' 0)) 6 0,o3 (.mv (ci' 0)) 7 1]
def yte:LO:=[mv' 0 18 0,o3 (.nilck (.tmp 18)) 19 1,fa' 3 1 19 20 3,ld' false 1 20 21 7,mv' 1 22 0,ix' 2 21 22 23 31,ld' true 2 23 24 63,o3 (.alloc 240 1 [.i .i64 0,.i .i64 0]) 8 0,o0 (.store 2 (.tmp 8) (.tmp 24)) 255]
def ytx:LO:=[fa' 0 1 8 26 0,ld' false 1 26 27 1,o3 (.bin .leq (.tmp 27) (ci' 17)) 28 3,mv' 28 25 7]
def ytt:LO:=[mv' 0 29 0,ld' true 2 8 30 0,mv' 2 31 0,cl' 236 [29,30,31] 32 7,mv' 1 33 0,o3 (.bin .add (.tmp 33) (ci' 1)) 34 16,mv' 32 6 15,mv' 34 7 127]
def yuj:LO:=[fa' 0 1 8 36 0,ld' false 1 36 37 1,o3 (.bin .leq (.tmp 37) (ci' 19)) 38 3,mv' 38 35 7]
def yuc:LO:=[mv' 0 40 0,mv' 1 41 0,o3 (.bin .add (.tmp 41) (ci' 1)) 42 2,mv' 2 43 0,cl' 220 [40,42,43] 44 15,mv' 44 39 31,xt' 39 0 45 63,xt' 39 1 46 63,mv' 45 6 127,mv' 46 7 511]
def yth:LO:=[fa' 0 1 8 47 0,ld' false 1 47 48 1,mv' 6 49 0,cl' 237 [48,49] 50 7,mv' 7 51 0,mv' 50 6 15,mv' 51 7 63]
def ytq:LO:=[fa' 0 1 8 53 0,ld' false 1 53 54 1,o3 (.bin .leq (.tmp 54) (ci' 29)) 55 3,mv' 55 52 7]
def ytb:LO:=[mv' 0 56 0,fa' 0 1 8 57 0,ld' false 1 57 58 2,mv' 1 59 0,cl' 238 [56,58,59] 60 15,xt' 60 0 61 31,xt' 60 1 62 31,mv' 61 6 127,mv' 62 7 255]
def ytv:LO:=[fa' 0 1 8 64 0,ld' false 1 64 65 1,o3 (.bin .leq (.tmp 65) (ci' 42)) 66 3,mv' 66 63 7]
def yma:LO:=[mv' 0 68 0,mv' 1 69 0,o3 (.bin .add (.tmp 69) (ci' 1)) 70 2,mv' 2 71 0,cl' 220 [68,70,71] 72 15,mv' 72 67 31,xt' 67 0 73 63,xt' 67 1 74 63,mv' 73 9 127,mv' 74 10 511]
def ynf:LO:=[mv' 0 76 0,mv' 10 77 0,mv' 2 78 0,cl' 220 [76,77,78] 79 7,mv' 79 75 15,xt' 75 0 80 31,xt' 75 1 81 31,mv' 80 11 63,mv' 81 12 255]
def ymr:LO:=[fa' 0 1 8 82 0,ld' false 1 82 83 1,mv' 9 84 0,mv' 11 85 0,cl' 239 [83,84,85] 86 15,mv' 12 87 0,mv' 86 6 31,mv' 87 7 127]
def yml:LO:=[mv' 0 89 0,mv' 1 90 0,o3 (.bin .add (.tmp 90) (ci' 1)) 91 2,mv' 2 92 0,cl' 220 [89,91,92] 93 15,mv' 93 88 31,xt' 88 0 94 63,xt' 88 1 95 63,mv' 94 13 127,mv' 95 14 511]
def ymn:LO:=[mv' 0 97 0,mv' 14 98 0,mv' 2 99 0,cl' 220 [97,98,99] 100 7,mv' 100 96 15,xt' 96 0 101 31,xt' 96 1 102 31,mv' 101 15 63,mv' 102 16 255]
def yni:LO:=[mv' 0 104 0,mv' 16 105 0,mv' 2 106 0,cl' 220 [104,105,106] 107 7,mv' 107 103 15,xt' 103 0 108 31,xt' 103 1 109 31,mv' 108 17 63,mv' 109 7 255]
def ync:LO:=[mv' 13 110 0,o3 (.bin .neq (.tmp 110) (ci' 0)) 111 1]
def yms:LO:=[mv' 15 112 0,mv' 7 113 0,mv' 112 6 1,mv' 113 7 7]
def ynd:LO:=[mv' 17 114 0,mv' 7 115 0,mv' 114 6 1,mv' 115 7 7]
def c220:SC:=(.seq (.reg false yti) (.seq (.reg false yte) (.seq (.block 0 (.seq (.reg false ytx) (.cond (.tmp 25) (.seq (.reg false ytt) .ret) (.seq (.reg false yuj) (.cond (.tmp 35) (.seq (.reg false yuc) (.seq (.reg false yth) .ret)) (.seq (.reg false ytq) (.cond (.tmp 52) (.seq (.reg false ytb) .ret) (.seq (.reg false ytv) (.cond (.tmp 63) (.seq (.reg false yma) (.seq (.reg false ynf) (.seq (.reg false ymr) .ret))) .skip))))))))) (.seq (.reg false yml) (.seq (.reg false ymn) (.seq (.reg false yni) (.seq (.seq (.reg false ync) (.cond (.tmp 111) (.seq (.reg false yms) .ret) .skip)) (.seq (.reg false ynd) .ret))))))))
theorem yrl:Fn 220 c220 [.t 6,.t 7]:=fn_0 Tryz.func220 (by kernel_rfl) (by kernel_rfl)
def ycca:LO:=[o3 (.box 240 (.tmp 1)) 4 0,o3 (.mv (ci' 0)) 6 0]
def ycno:LO:=[fa' 0 1 4 7 0,ld' false 1 7 8 1]
def ycjc:LO:=[o3 (.bin .eql (.tmp 8) (ci' 1)) 10 0,mv' 10 9 1]
def ycdp:LO:=[fa' 1 1 4 11 0,ld' false 1 11 12 1,mv' 12 6 3]
def ycgj:LO:=[o3 (.bin .eql (.tmp 8) (ci' 2)) 14 0,mv' 14 13 1]
def ycoe:LO:=[o3 (.mv (ci' 1)) 6 0]
def ycnp:LO:=[o3 (.bin .eql (.tmp 8) (ci' 3)) 16 0,mv' 16 15 1]
def ycjb:LO:=[o3 (.mv (ci' 0)) 6 0]
def ycnu:LO:=[o3 (.bin .eql (.tmp 8) (ci' 4)) 18 0,mv' 18 17 1]
def ycpo:LO:=[o3 (.mv (.const (.int .i64 (-1)))) 6 0]
def ybrs:LO:=[o3 (.bin .eql (.tmp 8) (ci' 5)) 20 0,mv' 20 19 1]
def ybss:LO:=[mv' 0 21 0,o3 (.nilck (.tmp 21)) 22 1,fa' 1 1 22 23 3,ld' false 1 23 24 7,mv' 0 25 0,o3 (.nilck (.tmp 25)) 26 16,fa' 2 1 26 27 48,ld' false 1 27 28 112,ix' 1 24 28 29 255,ld' false 1 29 30 511,fa' 1 1 4 31 0,ld' false 1 31 32 1024,ix' 1 30 32 33 4095,ld' false 1 33 34 8191,mv' 34 6 16383]
def ybps:LO:=[o3 (.bin .eql (.tmp 8) (ci' 12)) 36 0,mv' 36 35 1]
def ybtx:LO:=[mv' 0 37 0,o3 (.nilck (.tmp 37)) 38 1,fa' 1 1 38 39 3,ld' false 1 39 40 7,mv' 0 41 0,o3 (.nilck (.tmp 41)) 42 16,fa' 0 1 42 43 48,ld' false 1 43 44 112,o3 (.nilck (.tmp 44)) 45 240,fa' 3 2 45 46 496,fa' 1 1 46 47 1008,ld' false 1 47 48 2032,mv' 0 49 0,o3 (.nilck (.tmp 49)) 50 4096,fa' 2 1 50 51 12288,ld' false 1 51 52 28672,ix' 1 48 52 53 65520,ld' false 1 53 54 131056,mv' 2 55 0,ix' 2 54 55 56 524272,fa' 0 1 56 57 1048560,ld' false 1 57 58 2097136,ix' 1 40 58 59 4194303,ld' false 1 59 60 8388607,fa' 1 1 4 61 0,ld' false 1 61 62 16777216,ix' 1 60 62 63 67108863,ld' false 1 63 64 134217727,mv' 64 6 268435455]
def yblz:LO:=[mv' 0 65 0,o3 (.nilck (.tmp 65)) 66 1,fa' 0 1 66 67 3,ld' false 1 67 68 7,fa' 0 1 4 69 0,ld' false 1 69 70 16,mv' 0 71 0,o3 (.nilck (.tmp 71)) 72 64,fa' 2 1 72 73 192,ld' false 1 73 74 448,mv' 2 75 0,cl' 255 [68,70,74,75] 76 2047,mv' 76 6 4095]
def c236:SC:=(.seq (.reg false ycca) (.seq (.seq (.reg false ycno) (.block 0 (.seq (.reg false ycjc) (.cond (.tmp 9) (.seq (.reg false ycdp) .ret) (.seq (.reg false ycgj) (.cond (.tmp 13) (.seq (.reg false ycoe) .ret) (.seq (.reg false ycnp) (.cond (.tmp 15) (.seq (.reg false ycjb) .ret) (.seq (.reg false ycnu) (.cond (.tmp 17) (.seq (.reg false ycpo) .ret) (.seq (.reg false ybrs) (.cond (.tmp 19) (.seq (.reg true ybss) .ret) (.seq (.reg false ybps) (.cond (.tmp 35) (.seq (.reg true ybtx) .ret) .skip)))))))))))))) (.seq (.reg true yblz) .ret)))
theorem ycrp:Fn 236 c236 [.t 6]:=fn_0 Tryz.func236 (by kernel_rfl) (by kernel_rfl)
def ycnd:LO:=[o3 (.mv (ci' 0)) 6 0,o3 (.mv (ci' 0)) 7 1]
def ycit:LO:=[o3 (.alloc 256 24 [.i .i64 0]) 8 0]
def ycoa:LO:=[mv' 0 11 0,o3 (.nilck (.tmp 11)) 12 1,fa' 0 1 12 13 3,ld' false 1 13 14 7,o3 (.nilck (.tmp 14)) 15 15,fa' 3 2 15 16 31,fa' 1 1 16 17 63,ld' false 1 17 18 127,mv' 0 19 0,o3 (.nilck (.tmp 19)) 20 256,fa' 2 1 20 21 768,ld' false 1 21 22 1792,ix' 1 18 22 23 4095,ld' false 1 23 24 8191,ln' 24 25 16383,mv' 25 9 32767]
def ycei:LO:=[mv' 9 26 0,o3 (.mv (ci' 0)) 27 0]
def ycox:LO:=[bn' .lss 27 26 28 0]
def ycpd:LO:=[mv' 27 29 0,mv' 29 10 1]
def yclu:LO:=[mv' 10 31 0,mv' 0 32 0,mv' 2 33 0,o3 (.bin .add (.tmp 33) (ci' 1)) 34 4,mv' 10 35 0,cl' 220 [32,34,35] 36 30,mv' 36 30 62,xt' 30 0 37 126,xt' 30 1 38 126,o3 (.idxA 24 1 (.tmp 8) (.tmp 31)) 39 255,o0 (.store 1 (.tmp 39) (.tmp 37)) 767,mv' 38 7 2047]
def ycqb:LO:=[o3 (.bin .add (.tmp 27) (ci' 1)) 40 0,mv' 40 27 1]
def ycfd:LO:=[mv' 9 41 0,o3 (.bin .eql (.tmp 41) (ci' 0)) 42 1]
def ycpn:LO:=[mv' 0 43 0,o3 (.nilck (.tmp 43)) 44 1,fa' 3 1 44 45 3,ld' false 1 45 46 7,mv' 2 47 0,cl' 231 [46,47] 48 31,mv' 48 7 63]
def ybqr:LO:=[mv' 1 49 0,mv' 9 50 0,o3 (.cutA 24 1 (.tmp 8) none (some (.tmp 50))) 51 2,cl' 257 [49,51] 52 7,mv' 7 53 0,mv' 52 6 15,mv' 53 7 63]
def c238:SC:=(.seq (.reg false ycnd) (.seq (.reg false ycit) (.seq (.reg true ycoa) (.seq (.seq (.reg false ycei) (.block 0 (.loop (.seq (.reg false ycox) (.seq (.cond (.tmp 28) .skip (.exit 0)) (.seq (.block 1 (.seq (.reg false ycpd) (.reg false yclu))) (.reg false ycqb))))))) (.seq (.seq (.reg false ycfd) (.cond (.tmp 42) (.reg false ycpn) .skip)) (.seq (.reg false ybqr) .ret))))))
theorem yctr:Fn 238 c238 [.t 6,.t 7]:=fn_0 Tryz.func238 (by kernel_rfl) (by kernel_rfl)
end Sh
end
section
def adj(g:Gr)(u v:Nat):Prop:=∃ls,g.ports[u]?=some ls/\∃l∈ls,l.1=(v:Int)
def Walk(g:Gr)(a:Nat):Nat->Nat->Prop
 |0,v=>v=a
 |k+1,v=>∃u,Walk g a k u/\adj g u v
def ycwh(g:Gr)(a v:Nat)(x:Int):Prop:=(x = -1/\∀k,¬Walk g a k v)\/∃k:Nat,x=k/\Walk g a k v/\∀j,j<k->¬Walk g a j v
def ydac(g:Gr)(a:Nat)(D:List Int):Prop:=D.length=g.ports.length/\∀v x,D[v]?=some x->ycwh g a v x
theorem ybb.link{g:Gr}(h:ybb g){v:Nat}{ls:List (Int×Int)}(hv:g.ports[v]?=some ls){l:Int×Int}(hl:l∈ls):0<=l.1/\l.1<g.ports.length/\l.1≠v/\1<=l.2/\l.2<=15:=by
 obtain⟨hlt,e⟩:=List.getElem?_eq_some_iff.1 hv;have:=(h.2.2.2.2.2.1 ⟨v,hlt⟩).1 l (by simp only[Fin.getElem_fin,e];exact hl)
 unfold yjs at this;simp only at this;omega
theorem ybb.adj_lt{g:Gr}(h:ybb g){u v:Nat}(ha:adj g u v):u<g.ports.length/\v<g.ports.length:=by
 obtain⟨ls,h1,l,hl,e⟩:=ha;have:=h.link h1 hl;exact⟨(List.getElem?_eq_some_iff.1 h1).1,by omega⟩
theorem ybb.adj_symm{g:Gr}(h:ybb g){u v:Nat}(ha:adj g u v):adj g v u:=by
 obtain⟨hu,hv⟩:=h.adj_lt ha;obtain⟨ls,h1,l,hl,e⟩:=ha;obtain⟨hlt,e1⟩:=List.getElem?_eq_some_iff.1 h1;have:=h.2.2.2.2.2.2 ⟨u,hlt⟩ l (by simp only[Fin.getElem_fin,e1];exact hl)
 rw[e,zL]at this;simp only[zH,zB hv,Option.getD_some]at this;exact⟨_,zB hv,_,this,rfl⟩
structure BfsInv(g:Gr)(a:Nat)(R:List Int)(Q:List Nat):Prop where
 len:R.length=g.ports.length
 src:R[a]?=some 0
 val:∀(v:Nat) (x:Int),R[v]?=some x->x = -1\/∃k:Nat,x=k/\Walk g a k v/\∀j,j<k->¬Walk g a j v
 qin:∀q∈Q,∃k:Nat,R[q]?=some (k:Int)
 sorted:Q.Pairwise (fun p q=>∀x y,R[p]?=some x->R[q]?=some y->x<=y/\y<=x+1)
 done:∀(v k:Nat),R[v]?=some (k:Int)->v∉Q->∀u,adj g v u->∃j:Nat,R[u]?=some (j:Int)
structure BfsIn(g:Gr)(a v d:Nat)(ls:List (Int×Int))(i:Nat)(R:List Int)(Q:List Nat):Prop where
 len:R.length=g.ports.length
 src:R[a]?=some 0
 val:∀(v:Nat) (x:Int),R[v]?=some x->x = -1\/∃k:Nat,x=k/\Walk g a k v/\∀j,j<k->¬Walk g a j v
 qin:∀q∈Q,∃k:Nat,R[q]?=some (k:Int)
 sorted:Q.Pairwise (fun p q=>∀x y,R[p]?=some x->R[q]?=some y->x<=y/\y<=x+1)
 rv:R[v]?=some (d:Int)
 low:∀q∈Q,∀y,R[q]?=some y->(d:Int)<=y/\y<=d+1
 done:∀(u k:Nat),R[u]?=some (k:Int)->u∉Q->u≠v->∀t,adj g u t->∃j:Nat,R[t]?=some (j:Int)
 part:∀l∈ls.take i,∃j:Nat,R[l.1.toNat]?=some (j:Int)
theorem BfsInv.start{g:Gr}{a:Nat}(ha:a<g.ports.length):BfsInv g a ((zZ g.ports.length (-1)).set a 0) [a] where
 len:=by simp
 src:=by simp[ha]
 val := by
  intro v x h;rw[zD]at h;split at h
  ·rename_i e
   subst e;simp[ha]at h;subst h;exact .inr ⟨0,rfl,rfl,fun j hj=>absurd hj (by omega)⟩
  ·rw[zK]at h;split at h
   ·cases h;exact .inl rfl
   ·cases h
 qin:=by
  intro q hq;obtain rfl:q=a:=by simpa using hq
  exact⟨0,by simp[ha]⟩
 sorted:=by simp
 done:=by
  intro v k h hv u _;rw[zD]at h;split at h
  ·rename_i e
   exact absurd (by simp[e]) hv
  ·rw[zK]at h;split at h
   ·cases h
   ·cases h
theorem BfsIn.finish{g:Gr}{a v d:Nat}{ls:List (Int×Int)}{R:List Int}{Q:List Nat}(h:BfsIn g a v d ls ls.length R Q)(hls:g.ports[v]?=some ls):BfsInv g a R Q where
 len:=h.len
 src:=h.src
 val:=h.val
 qin:=h.qin
 sorted:=h.sorted
 done:=by
  intro u k hu hq t ht
  by_cases e:u=v
  ·subst e;obtain⟨ls',h1,l,hl,e2⟩:=ht;rw[hls]at h1;cases h1
   have:=h.part l (by rw[zW];exact hl)
   rwa [e2,zL]at this
  ·exact h.done u k hu hq e t ht
theorem BfsIn.skip{g:Gr}{a v d:Nat}{ls:List (Int×Int)}{i:Nat}{R:List Int}{Q:List Nat}(h:BfsIn g a v d ls i R Q)(hi:i<ls.length){j:Nat}(hj:R[ls[i].1.toNat]?=some (j:Int)):BfsIn g a v d ls (i+1) R Q :=
 ⟨h.len,h.src,h.val,h.qin,h.sorted,h.rv,h.low,h.done,by
   intro l hl;rw[take_snoc ls i hi]at hl;rcases List.mem_append.1 hl with hl|hl
   ·exact h.part l hl
   ·obtain rfl:l=ls[i]:=by simpa using hl
    exact⟨j,hj⟩⟩
theorem BfsIn.found{g:Gr}{a v d:Nat}{ls:List (Int×Int)}{i:Nat}{R:List Int}{Q:List Nat}(h:BfsIn g a v d ls i R Q) :
 ∀k,k<=d->∀t,Walk g a k t->∃j:Nat,R[t]?=some (j:Int):=by
 intro k
 induction k with
 |zero=>intro _ t ht;obtain rfl:t=a:=ht;exact⟨0,h.src⟩
 | succ k ih =>
   intro hk t ⟨p,hp,hpt⟩;obtain⟨j,hj⟩:=ih (by omega) p hp
   have hjk:j<=k:=by
    rcases h.val p _ hj with e|⟨k',e,_,hmin⟩
    ·omega
    ·have:j=k':=by omega
     subst this;rcases zAB k j with hlt|hge
     ·exact absurd hp (hmin k hlt)
     ·exact hge
   refine h.done p j hj ?_ ?_ t hpt
   ·intro hq;have:=(h.low p hq _ hj).1;omega
   ·rintro rfl;have e1:=h.rv;rw[hj]at e1;have e2:=Option.some.inj e1;omega
end
section
def ybyg(R:List Int)(x:Int)(ls:List (Int×Int)):Bool:=ls.any (fun l=>decide (R[l.1.toNat]?=some x))
def ybwc(g:Gr)(d:Int)(R:List Int)(v:Nat):List Int :=
 if decide (R.getD v 0<0)&&ybyg R (d-1) (g.ports.getD v [])then R.set v d else R
def stepD(g:Gr)(R:List Int)(d:Nat):List Int:=(zJ g.ports.length).foldl (ybwc g d) R
def start(g:Gr)(a:Nat):List Int:=(zZ g.ports.length (-1)).set a 0
def yea(g:Gr)(a:Nat):List Int:=(zJ (g.ports.length-1)).foldl (fun R d=>stepD g R (d+1)) (start g a)
def Upto(g:Gr)(a d v:Nat)(x:Int):Prop:=(x = -1/\∀k,k<=d->¬Walk g a k v)\/∃k:Nat,k<=d/\x=k/\Walk g a k v/\∀j,j<k->¬Walk g a j v
theorem Upto.eq{g:Gr}{a d v:Nat}{x:Int}(h:Upto g a d v x){k:Nat}(hk:k<=d):x=k↔Walk g a k v/\∀j,j<k->¬Walk g a j v:=by
 rcases h with⟨rfl,h1⟩|⟨i,hi,rfl,h1,h2⟩
 ·exact⟨fun e=>by omega,fun e=>absurd e.1 (h1 k hk)⟩
 ·constructor
  ·intro e;obtain rfl:i=k:=by omega
   exact⟨h1,h2⟩
  ·rintro⟨h3,h4⟩;rcases Nat.lt_trichotomy i k with h|h|h
   ·exact absurd h1 (h4 i h)
   ·omega
   ·exact absurd h3 (h2 k h)
theorem Upto.more{g:Gr}{a d v:Nat}{x:Int}(h:Upto g a d v x)(hx:0<=x):Upto g a (d+1) v x:=by
 rcases h with⟨rfl,h1⟩|⟨i,hi,rfl,h1,h2⟩
 ·omega
 ·exact .inr ⟨i,by omega,rfl,h1,h2⟩
structure LayerInv(g:Gr)(a d v:Nat)(R:List Int):Prop where
 len:R.length=g.ports.length
 new:∀(u:Nat) (x:Int),R[u]?=some x->u<v->Upto g a (d+1) u x
 old:∀(u:Nat) (x:Int),R[u]?=some x->v<=u->Upto g a d u x
theorem LayerInv.at_{g:Gr}{a d v:Nat}{R:List Int}(h:LayerInv g a d v R){u:Nat}(hu:u<g.ports.length):R[u]?=some (d:Int)↔Walk g a d u/\∀j,j<d->¬Walk g a j u:=by
 have hl:=h.len;have e:R[u]?=some R[u]:=zB (by omega)
 have hx:R[u]=(d:Int)↔Walk g a d u/\∀j,j<d->¬Walk g a j u:=by
  by_cases hv:u<v
  ·exact(h.new u _ e hv).eq (by omega)
  ·exact(h.old u _ e (by omega)).eq (by omega)
 rw[e]
 simpa using hx
theorem LayerInv.step{g:Gr}(hg:ybb g){a d v:Nat}{R:List Int}(h:LayerInv g a d v R)(hv:v<g.ports.length):LayerInv g a d (v+1) (ybwc g ((d:Int)+1) R v):=by
 have hlen:=h.len;have ev:R[v]?=some R[v]:=zB (by omega)
 have eg:R.getD v 0=R[v]:=by simp[zH,ev]
 have ep:g.ports.getD v []=g.ports[v]:=by simp[zH,zB hv]
 have hhas:ybyg R ((d:Int)+1-1) g.ports[v]=true↔∃u,adj g u v/\Walk g a d u/\∀j,j<d->¬Walk g a j u:=by
  unfold ybyg;rw[List.any_eq_true];constructor
  ·rintro⟨l,hl,h1⟩;have hlk:=hg.link (zB hv) hl;have h1:=of_decide_eq_true h1;rw[show(d:Int)+1-1=d by omega]at h1
   refine⟨l.1.toNat,hg.adj_symm ⟨_,zB hv,l,hl,by omega⟩,?_⟩
   exact(h.at_ (by omega)).1 h1
  ·rintro⟨u,hu,hw⟩;obtain⟨hu1,_⟩:=hg.adj_lt hu;obtain⟨ls,h1,l,hl,e⟩:=hg.adj_symm hu;rw[zB hv]at h1;cases h1
   refine⟨l,hl,decide_eq_true ?_⟩;rw[e,zL,show(d:Int)+1-1=d by omega]
   exact(h.at_ hu1).2 hw
 have hov:=h.old v _ ev (zG _);unfold ybwc;rw[eg,ep]
 by_cases c1:R[v]<0
 ·have hx:R[v] = -1/\∀k,k<=d->¬Walk g a k v:=by
   rcases hov with h1|⟨k,_,e,_⟩
   ·exact h1
   ·omega
  by_cases c2:ybyg R ((d:Int)+1-1) g.ports[v]=true
  ·rw[if_pos (by rw[zI];exact⟨decide_eq_true c1,c2⟩)]
   obtain⟨p,hp,hw,_⟩:=hhas.1 c2;have hset:∀t,t≠v->(R.set v ((d:Int)+1))[t]?=R[t]?:=fun t ht=>by rw[zD,if_neg (by omega)]
   refine⟨by simp[hlen],fun u x hu huv=>?_,fun u x hu huv=>?_⟩
   ·by_cases e:u=v
    ·subst e;rw[zD,if_pos rfl,if_pos (by omega)]at hu
     cases hu
     exact .inr ⟨d+1,zG _,by omega,⟨p,hw,hp⟩,fun j hj=>hx.2 j (by omega)⟩
    ·rw[hset u e]at hu;exact h.new u x hu (by omega)
   ·rw[hset u (by omega)]at hu
    exact h.old u x hu (by omega)
  ·rw[if_neg (fun e=>c2 (zI _ _▸e).2)];refine⟨hlen,fun u x hu huv=>?_,fun u x hu huv=>h.old u x hu (by omega)⟩
   by_cases e:u=v
   ·subst e;rw[ev]at hu;cases hu
    refine .inl ⟨hx.1,fun k hk hw=>?_⟩;rcases zAB d k with hlt|hge
    ·obtain rfl:k=d+1:=by omega
     obtain⟨p,hp,hpv⟩:=hw;refine c2 (hhas.2 ⟨p,hpv,hp,fun j hj hw'=>hx.2 (j+1) (by omega) ⟨p,hw',hpv⟩⟩)
    ·exact hx.2 k hge hw
   ·exact h.new u x hu (by omega)
 ·rw[if_neg (by simp[c1])]
  refine⟨hlen,fun u x hu huv=>?_,fun u x hu huv=>h.old u x hu (by omega)⟩
  by_cases e:u=v
  ·subst e;exact(h.old u x hu (zG _)).more (by rw[ev]at hu;cases hu;omega)
  ·exact h.new u x hu (by omega)
theorem ytl{g:Gr}(hg:ybb g){a d:Nat}{R:List Int}(h:LayerInv g a d 0 R):∀v,v<=g.ports.length->LayerInv g a d v ((zJ v).foldl (ybwc g ((d:Int)+1)) R)
 |0,_=>h
 | v+1,hv=>by
   rw[zY,zS];exact(ytl hg h v (by omega)).step hg (by omega)
def yuu(g:Gr)(a d:Nat)(R:List Int):Prop:=R.length=g.ports.length/\∀(u:Nat) (x:Int),R[u]?=some x->Upto g a d u x
theorem ybhz{g:Gr}{a:Nat}(ha:a<g.ports.length):yuu g a 0 (start g a):=by
 refine⟨by simp[start],fun u x hu=>?_⟩
 unfold start at hu;rw[zD]at hu;split at hu
 ·rename_i e
  subst e;simp[ha]at hu;subst hu;exact .inr ⟨0,zG _,rfl,rfl,fun j hj=>absurd hj (by omega)⟩
 ·rename_i e
  rw[zK]at hu;split at hu
  ·cases hu
   refine .inl ⟨rfl,fun k hk hw=>?_⟩;obtain rfl:k=0:=by omega
   exact e hw.symm
  ·cases hu
theorem ybic{g:Gr}(hg:ybb g){a d:Nat}{R:List Int}(h:yuu g a d R):yuu g a (d+1) (stepD g R (d+1)):=by
 have h0:LayerInv g a d 0 R:=⟨h.1,fun _ _ _ hu=>absurd hu (by omega),fun u x hu _=>h.2 u x hu⟩
 have h1:=ytl hg h0 g.ports.length (zG _);unfold stepD;rw[show((d+1:Nat):Int)=(d:Int)+1 by omega]
 exact⟨h1.len,fun u x hu=>h1.new u x hu (by rw[<-h1.len];exact(List.getElem?_eq_some_iff.1 hu).1)⟩
theorem yqn{g:Gr}(hg:ybb g){a:Nat}(ha:a<g.ports.length):∀d,yuu g a d ((zJ d).foldl (fun R d=>stepD g R (d+1)) (start g a))
 |0=>ybhz ha
 |d+1=>by rw[zY,zS];exact ybic hg (yqn hg ha d)
theorem chain{g:Gr}{a:Nat}:∀k v,Walk g a k v->(∀j,j<k->¬Walk g a j v)->∃f:Nat->Nat,∀j,j<=k->Walk g a j (f j)/\∀i,i<j->¬Walk g a i (f j)
 | 0,v,h,_=>⟨fun _=>v,fun j hj=>by obtain rfl:j=0:=by omega
                                   exact⟨h,fun i hi=>absurd hi (by omega)⟩⟩
 | k + 1,v,h,hm=>by
   obtain⟨p,hp,hpv⟩:=h;obtain⟨f,hf⟩:=chain k p hp (fun j hj hw=>hm (j+1) (by omega) ⟨p,hw,hpv⟩)
   refine⟨fun j=>if j<=k then f j else v,fun j hj=>?_⟩
   by_cases hjk:j<=k
   ·simp only[if_pos hjk];exact hf j hjk
   ·obtain rfl:j=k+1:=by omega
    simp only[if_neg hjk];exact⟨⟨p,hp,hpv⟩,hm⟩
theorem walk_lt{g:Gr}(hg:ybb g){a:Nat}(ha:a<g.ports.length):∀k v,Walk g a k v->v<g.ports.length
 |0,v,h=>by obtain rfl:v=a:=h;exact ha
 |k+1,v,h=>by obtain⟨u,_,hu⟩:=h;exact(hg.adj_lt hu).2
theorem least_walk{g:Gr}{a v:Nat}:∀k,Walk g a k v->∃j,j<=k/\Walk g a j v/\∀i,i<j->¬Walk g a i v:=by
 intro k
 induction k using Nat.strongRecOn with
 | _ k ih =>
   intro hw
   by_cases h:∃j,j<k/\Walk g a j v
   ·obtain⟨j,hj,hwj⟩:=h;obtain⟨i,hi,r⟩:=ih j hj hwj;exact⟨i,by omega,r⟩
   ·exact⟨k,zG _,hw,fun i hi hwi=>h ⟨i,hi,hwi⟩⟩
theorem ybqc{g:Gr}(hg:ybb g){a v k:Nat}(ha:a<g.ports.length)(h:Walk g a k v)(hm:∀j,j<k->¬Walk g a j v):k<g.ports.length:=by
 obtain⟨f,hf⟩:=chain k v h hm;have hinj:∀i j,i<j->j<=k->f i≠f j:=fun i j hij hj e=>(hf j hj).2 i hij (by rw[<-e];exact(hf i (by omega)).1)
 have h1:((zJ (k+1)).map f).Nodup:=by
  rw[List.Nodup,List.pairwise_map];refine(List.Pairwise.and_mem.1 List.pairwise_lt_range).imp ?_;rintro i j ⟨_,hj,hij⟩;exact hinj i j hij (by simp at hj;omega)
 have h2:(zJ (k+1)).map f ⊆ zJ g.ports.length:=by
  intro x hx;obtain⟨j,hj,rfl⟩:=List.mem_map.1 hx;simp only[List.mem_range]at hj ⊢;exact walk_lt hg ha j _ (hf j (by omega)).1
 have:=List.Nodup.length_le_of_subset h1 h2;simp at this;omega
theorem yim{g:Gr}(hg:ybb g){a:Nat}(ha:a<g.ports.length):ydac g a (yea g a):=by
 obtain⟨h1,h2⟩:=yqn hg ha (g.ports.length-1);refine⟨h1,fun v x hx=>?_⟩;rcases h2 v x hx with⟨rfl,h3⟩|⟨k,_,r⟩
 ·refine .inl ⟨rfl,fun k hk=>?_⟩;obtain⟨j,_,hj,hm⟩:=least_walk k hk;have:=ybqc hg ha hj hm;exact h3 j (by omega) hj
 ·exact .inr ⟨k,r⟩
end
section
def yry(g:Gr):Bool:=ygd g&&(yea g 0).all (fun x=>decide (0<=x))
theorem ywx(D:List Int):∀m:Int,m<=D.foldl max m:=by
 induction D with
 |nil=>intro m;exact Int.le_refl _
 |cons x D ih=>intro m;exact Int.le_trans (Int.le_max_left m x) (ih _)
theorem yyt{g:Gr}(hg:ybb g){a:Nat}(ha:a<g.ports.length):(yea g a).length=g.ports.length:=(yim hg ha).1
theorem Walk.trans{g:Gr}{a b:Nat}:∀{j:Nat}{c:Nat}{k:Nat},Walk g a k b->Walk g b j c->Walk g a (k+j) c
 |0,c,k,h1,h2=>by obtain rfl:c=b:=h2;exact h1
 | j+1,c,k,h1,h2=>by
   obtain⟨u,hu,huc⟩:=h2;exact⟨u,Walk.trans h1 hu,huc⟩
theorem Walk.one{g:Gr}{a b:Nat}(h:adj g a b):Walk g a 1 b:=⟨a,rfl,h⟩
theorem Walk.symm{g:Gr}(hg:ybb g){a:Nat}:∀{k:Nat}{b:Nat},Walk g a k b->Walk g b k a
 |0,b,h=>by obtain rfl:b=a:=h;exact rfl
 | k+1,b,h=>by
   obtain⟨u,hu,hub⟩:=h;have:=Walk.trans (Walk.one (hg.adj_symm hub)) (Walk.symm hg hu)
   rwa [Nat.add_comm]at this
theorem ybav{g:Gr}(hg:ybb g){a:Nat}(ha:a<g.ports.length):(yea g a).all (fun x=>decide (0<=x))=true↔∀v,v<g.ports.length->∃k,Walk g a k v:=by
 have hd:=yim hg ha;rw[zU];constructor
 ·intro h v hv;have hv':v<(yea g a).length:=by rw[hd.1];exact hv
  rcases hd.2 v _ (zB hv')with⟨e,_⟩|⟨k,_,hk,_⟩
  ·have:=of_decide_eq_true (h _ (List.getElem_mem hv'));omega
  ·exact⟨k,hk⟩
 ·intro h x hx;obtain⟨v,hv,rfl⟩:=List.mem_iff_getElem.1 hx;obtain⟨k,hk⟩:=h v (by rw[<-hd.1];exact hv)
  rcases hd.2 v _ (zB hv)with⟨e,h1⟩|⟨k,e,_⟩
  ·exact absurd hk (h1 k)
  ·rw[e];simp
theorem ycau{g:Gr}(hg:ybb g){a b:Nat}(ha:a<g.ports.length)(hb:b<g.ports.length)(h:(yea g a).all (fun x=>decide (0<=x))=true):(yea g b).all (fun x=>decide (0<=x))=true:=by
 rw[ybav hg ha]at h;rw[ybav hg hb];intro v hv;obtain⟨k,hk⟩:=h v hv;obtain⟨j,hj⟩:=h b hb;exact⟨_,Walk.trans (Walk.symm hg hj) hk⟩
end
section
abbrev Conf:=List (List Int)
abbrev Bounds:=List (Int×Int)
def yql(bs:Bounds)(s:List Int):Bool:=decide (s.length=bs.length)&&(bs.zip s).all (fun p=>decide (p.1.1<=p.2)&&decide (p.2<=p.1.2))
def yoo(n:Nat)(bs:Nat->Bounds)(c:Conf):Bool:=decide (c.length=n)&&c.zipIdx.all (fun p=>yql (bs p.2) p.1)
def yec(bs:Bounds)(s:List Int):Prop:=s.length=bs.length/\∀(i:Nat) b x,bs[i]?=some b->s[i]?=some x->b.1<=x/\x<=b.2
def ybgg(n:Nat)(bs:Nat->Bounds)(c:Conf):Prop:=c.length=n/\∀(v:Nat) s,c[v]?=some s->yec (bs v) s
theorem yep(bs:Bounds)(s:List Int):yql bs s=true↔yec bs s:=by
 unfold yql yec;rw[zI,decide_eq_true_iff,zU];refine and_congr_right fun _=>⟨fun h i b x hb hx=>?_,fun h p hp=>?_⟩
 ·have:=h (b,x) (zF (i:=i) (by simp[zT,hb,hx]))
  simpa using this
 ·obtain⟨i,hi⟩:=List.mem_iff_getElem?.1 hp;obtain⟨b,x⟩:=p;rw[zT]at hi
  simpa using h i b x hi.1 hi.2
theorem ydu(n:Nat)(bs:Nat->Bounds)(c:Conf):yoo n bs c=true↔ybgg n bs c:=by
 unfold yoo ybgg;rw[zI,decide_eq_true_iff,zU];refine and_congr_right fun _=>⟨fun h v s hs=>?_,fun h p hp=>?_⟩
 ·refine(yep _ _).1 (h (s,v) ?_);rw[zO];exact hs
 ·rw[zO]at hp;exact(yep _ _).2 (h p.2 p.1 hp)
theorem yhs{n:Nat}{bs:Nat->Bounds}{c:Conf}(h:¬ybgg n bs c):yoo n bs c=false:=by
 cases hb:yoo n bs c with
 |false=>rfl
 |true=>exact absurd ((ydu n bs c).1 hb) h
theorem yso{n:Nat}{bs:Nat->Bounds}{c:Conf}(h:ybgg n bs c):yoo n bs c=true:=(ydu n bs c).2 h
def yzm(g:Gr)(v:Nat):Nat:=(g.ports.getD v []).length
def ydj(g:Gr)(G:List Int)(v:Nat):Bounds:=G.map (fun h=>if h = -1 then(-1,(yzm g v:Int)-1)else(0,h))
def ybek(g:Gr):Int:=g.ids.foldl max 0
end
section
open Go.RowKit
end
section
open Go.RowKit
end
section
open Go.RowKit
def ybaa(acc:Int×Int->Bool)(ls:List (Int×Int)):Int:=match ls.findIdx? acc with|some i=>i|none=>-1
end
section
def portOf(g:Gr)(v:Nat)(y:Int):Int:=if 0<=y then((g.ports.getD v []).getD y.toNat (0,0)).1 else -1
def ywh(g:Gr)(c:Conf)(x:Nat):List Int:=c.zipIdx.map (fun p=>portOf g p.2 (p.1.getD x 0))
theorem yym(g:Gr)(c:Conf)(x v:Nat)(s:List Int)(hs:c[v]?=some s):(ywh g c x)[v]?=some (portOf g v (s.getD x 0)):=by
 simp[ywh,List.getElem?_zipIdx,hs]
end
section
def yyq(ids:List Int)(k:Nat):Int:=(ids.take k).tail.foldl max (ids.headD 0)
abbrev maxI(ids:List Int):Int:=yyq ids ids.length
theorem ybuj{ids:List Int}{k:Nat}(h1:1<=k)(hk:k<ids.length):(ids.take (k+1)).tail=(ids.take k).tail++[ids[k]]:=by
 rw[zN hk,List.tail_append_of_ne_nil];intro h;have:=congrArg zAC h;rw[List.length_take,zX]at this;omega
theorem ybla(ids:List Int):yyq ids 1=ids.headD 0:=by cases ids<;>simp[yyq]
theorem ybiv{ids:List Int}{k:Nat}(h1:1<=k)(hk:k<ids.length):yyq ids (k+1)=max (yyq ids k) ids[k]:=by
 unfold yyq;rw[ybuj h1 hk,zS];rfl
theorem ybfu{ids:List Int}(h0:0<ids.length)(h:∀x∈ids,0<=x):maxI ids=ids.foldl max 0:=by
 cases ids with
 |nil=>simp at h0
 | cons x l =>
   have hx:max 0 x=x:=Int.max_eq_right (h x (by simp))
   simp[maxI,yyq,hx]
def idxP(ids:List Int)(x:Int):Int:=match ids.findIdx? (fun y=>x==y)with
 |some i=>i
 |none=>-1
theorem ybzc{ids:List Int}{x:Int}{k:Nat}(hk:k<ids.length)(h:x=ids[k])(hn:(ids.take k).findIdx? (fun y=>x==y)=none):idxP ids x=k:=by
 unfold idxP
 have:ids.findIdx? (fun y=>x==y)=some k:=by
  rw[List.findIdx?_eq_some_iff_getElem];refine⟨hk,by simp[h],fun j hj=>?_⟩
  rw[List.findIdx?_eq_none_iff]at hn;simp[hn ids[j] (List.mem_take_iff_getElem.2 ⟨j,by omega,rfl⟩)]
 rw[this]
theorem ybmn{ids:List Int}{x:Int}(hn:(ids.take ids.length).findIdx? (fun y=>x==y)=none):idxP ids x = -1:=by
 rw[zW]at hn;unfold idxP;rw[hn]
theorem ybww{ids:List Int}{x:Int}{k:Nat}(hk:k<ids.length)(h:x≠ids[k])(hn:(ids.take k).findIdx? (fun y=>x==y)=none):(ids.take (k+1)).findIdx? (fun y=>x==y)=none:=by
 rw[zN hk,List.findIdx?_append,hn];simp[h]
end
section
namespace Sh
open Go Ev
def yw(l:List Int):SV:=.sl 1 l.length (fun k=>[.i .i64 (l.getD k 0)])
def ybc(ls:List (Int×Int)):SV:=.sl 2 ls.length (fun j=>[.i .i64 (ls.getD j (0,0)).1,.i .i64 (ls.getD j (0,0)).2])
def ybe(ps:List (List (Int×Int))):SV:=.sl 1 ps.length (fun v=>[ybc (ps.getD v [])])
def ybj(c:List (List Int)):SV:=.sl 1 c.length (fun v=>[yw (c.getD v [])])
def grV(g:Gr):SV:=.ag [yw g.ids,ybe g.ports]
theorem ik{n:Int}(h1:-1000000000000<=n)(h2:n<=1000000000000):inK .i64 n:=by
 unfold inK;simp[IntKind.min,IntKind.max,IntKind.bits,IntKind.signed];omega
theorem ikw{n:Int}(h1:-4611686018427387904<=n)(h2:n<=4611686018427387904):inK .i64 n:=by
 unfold inK;simp[IntKind.min,IntKind.max,IntKind.bits,IntKind.signed];omega
theorem getD_at{α:Type}{l:List α}{k:Nat}{d:α}(h:k<l.length):l.getD k d=l[k]:=by simp[zH,h]
theorem ycaj{l:List Int}{i k:Nat}{x:Int}(h:i<l.length):(l.set i x).getD k 0=if k=i then x else l.getD k 0:=by
 simp only[zH,zD]
 by_cases q:i=k
 ·subst q;simp[h]
 ·rw[if_neg q,if_neg (Ne.symm q)]
theorem ybmh(l:List Int)(x:Int)(hl:l.length<=100000):Returns zA 165 [yw l,.i .i64 x] (.i .i64 (idxP l x)):=by
 refine Returns.of (ycxc _ _ ?_);simp only[c165,ycis,yckm,yw,go_sem,zQ,↓reduceIte,reduceCtorEq];refine ybl (σ:=Nat) (fun k=>⟨[(8,.i .i64 k),(0,yw l),(1,.i .i64 x),(7,.i .i64 l.length)],[]⟩) (fun k=>k<=l.length/\(l.take k).findIdx? (fun y=>x==y)=none) (fun k=>l.length-k) 0 ⟨zAD _,by simp⟩ ?_ ?_
 ·refine yh [] [] [] ?_;simp only[yw,allQ,live,yc,Int.natCast_zero,go_sem,zC,↓reduceIte,reduceCtorEq]
 ·intro k ⟨hk,hno⟩;simp only[ycdh,yclm,ycor,yclk,ycmk,ycdk,yw,yu,go_sem,zC,zQ,↓reduceIte,reduceCtorEq];refine⟨fun h=>⟨by omega,fun he=>?_,fun he=>⟨ik (by omega) (by omega),?_⟩⟩,fun h=>?_⟩
  ·have hlt:k<l.length:=by omega
   rw[ybzc hlt (by rw[he,getD_at hlt]) hno]
  ·have hlt:k<l.length:=by omega
   refine yj (k+1) ⟨by omega,ybww hlt (by rw[<-getD_at (d:=0) hlt];exact he) hno⟩ (by omega) ?_
   refine yh [] [] [] ?_;simp only[allQ,live,yc,yu,go_sem,zC,↓reduceIte,reduceCtorEq];simp
  ·obtain rfl:k=l.length:=by omega
   rw[ybmn hno]
theorem ycsd(l:List Int)(h0:0<l.length)(hl:l.length<=100000):Returns zA 160 [yw l] (.i .i64 (maxI l)):=by
 refine Returns.of (ycqv _ _ ?_);simp only[c160,yccr,yclv,ycnw,ycow,yckw,yw,go_sem,Int.reduceToNat,zC,zQ,↓reduceIte,reduceCtorEq];refine⟨fun h=>by omega,fun _=>⟨by omega,?_⟩⟩
 refine ybl (σ:=Nat) (fun k=>⟨[(4,.i .i64 k),(3,.i .i64 (yyq l k)),(0,yw l)],[]⟩) (fun k=>1<=k/\k<=l.length) (fun k=>l.length-k) 1 ⟨by omega,by omega⟩ ?_ ?_
 ·refine yh [] [] [] ?_;simp only[yw,ybla,allQ,live,yc,yu,go_sem,zC,↓reduceIte,reduceCtorEq];cases l<;>simp at h0 ⊢
 ·intro k ⟨hk1,hk⟩;simp only[ycix,yccf,ycgt,yckn,yw,yu,go_sem,zC,zQ,↓reduceIte,reduceCtorEq];refine⟨fun h=>⟨by omega,ik (by omega) (by omega),?_⟩,fun h=>?_⟩
  ·refine yj (k+1) ⟨by omega,by omega⟩ (by omega) ?_
   refine yh [] [] [] ?_;have hlt:k<l.length:=by omega
   simp only[ybiv hk1 hlt,getD_at hlt,allQ,live,yc,yu,go_sem,zC,↓reduceIte,reduceCtorEq];simp
  ·obtain rfl:k=l.length:=by omega
   rfl
end Sh
end
section
namespace Sh
open Go Ev Go.RowKit
def GrI(g:Gr):Prop:=(∀x∈g.ids,I64 x)/\∀ls∈g.ports,∀l∈ls,I64 l.1/\I64 l.2
def ybra(c:List (List Int)):Prop:=∀s∈c,∀x∈s,I64 x
section
variable {G:AM}{m:Mem}{φ:Phi}{M:AM}{w:World}{u u':Value}
theorem ybxc {α:Type}{z n:Nat}{gg:Nat->List SV}{xs:List α}{E:Elem α}(hG:Le G m.b.get) (hr:RV G om0 (.sl z n gg) u) (hv:VR φ u u') (hR:Rel φ M w) (hs:Sub m M) (hn:xs.length=n)
 (hE:∀k x b o L L',xs[k]?=some x->RVL G om0 (gg k) L->VRL φ L L'->(∀j v,L'[j]?=some v->w.cell? ⟨b,o+j,none⟩=some v)->E w b o x):SlAt z E w u' xs:=by
 rcases hr.sl_inv with⟨rfl,h0⟩|⟨bk,p,cp,T,N,e,zz,L,rfl,g1,g2,g3,g4,g5,g6,g7⟩
 ·have:xs=[]:=List.eq_nil_of_length_eq_zero hn;subst this;rcases h0 with rfl|⟨b,o,c,rfl⟩
  ·have e:=hv.eq_simple rfl;subst e;exact SlAt.nil w
  ·obtain⟨lc,A,c',k1,k2,k3,k4,k5,k6,k7⟩:=hv.slice_inv;subst k3;exact⟨some A,c',rfl,zAD _,k6,fun q=>absurd q (by simp)⟩
 ·obtain⟨lc,A,c',k1,k2,k3,k4,k5,k6,k7⟩:=hv.slice_inv;subst k3;subst hn;refine⟨some A,c',rfl,k4,k6,fun hpos=>?_⟩;rcases k7 with⟨rfl,_⟩|k7
  ·obtain⟨lc',h1,h2⟩:=hR.blk _ _ (hs _ _ (hG _ _ g1));have k1':φ bk=some lc:=k1;rw[k1']at h1;cases h1
   obtain⟨h3,h4,cs,e2,fz2,h0,h5,h6,h7⟩:=h2;refine⟨lc.blk,lc.base+p,rfl,(Array.getElem?_eq_some_iff.1 h5).1,fun k x hx=>?_⟩;have hk:k<xs.length:=(List.getElem?_eq_some_iff.1 hx).1;have hin:=yia (z:=z) hk;have hcells:∀j v,j<z->(L k)[j]?=some v->∃v',cs[lc.base+(p+k*z+j)]?=some v'/\VR φ v v':=fun j v hj hv=>h7 _ v (by omega) (by rw[g5 k hk j hj];exact hv)
   have hex:∀(l:List Value) (q:Nat),(∀j v,l[j]?=some v->∃v',cs[q+j]?=some v'/\VR φ v v')->∃l',VRL φ l l'/\∀j v,l'[j]?=some v->cs[q+j]?=some v:=by
    intro l
    induction l with
    |nil=>intro q _;exact⟨[],.nil,fun j v h=>by simp at h⟩
    | cons a l ih =>
      intro q h;obtain⟨v',e1,e2⟩:=h 0 a rfl;obtain⟨l',e3,e4⟩:=ih (q+1) (fun j v hv=>by have:=h (j+1) v (by simpa using hv);rw[show q+1+j=q+(j+1)by omega];exact this)
      refine⟨v'::l',.cons e2 e3,fun j v hv=>?_⟩;cases j with
      |zero=>simp at hv;subst hv;exact e1
      |succ j=>have:=e4 j v (by simpa using hv);rw[show q+(j+1)=q+1+j by omega];exact this
   obtain⟨L',r1,r2⟩:=hex (L k) (lc.base+p+k*z) (fun j v hv=>by
    have hj:j<z:=by rw[<-g4 k hk];exact(List.getElem?_eq_some_iff.1 hv).1
    have:=hcells j v hj hv;rw[show lc.base+p+k*z+j=lc.base+(p+k*z+j)by omega]
    exact this)
   exact hE k x _ _ (L k) L' hx (g6 k hk) r1 fun j v hv=>cell_of h5 (by have:=r2 j v hv;exact this)
  ·omega
theorem ints_at{l:List Int}(hG:Le G m.b.get)(hr:RV G om0 (yw l) u)(hv:VR φ u u')(hR:Rel φ M w)(hs:Sub m M)(hI:∀x∈l,I64 x):yko w u' l:=by
 refine ybxc hG hr hv hR hs rfl fun k x b o L L' hx hL hL' hc=>?_;have hk:k<l.length:=(List.getElem?_eq_some_iff.1 hx).1;have hxe:l.getD k 0=x:=by simp[zH,hx]
 rw[hxe]at hL;cases hL with
 | cons a b =>
   cases b
   cases a.int_inv
   obtain⟨v',rfl,hvv⟩:=ygm hL';have:=hvv.eq_simple rfl;subst this;exact⟨hc 0 _ rfl,hI x (zF hx)⟩
theorem ybws{ls:List (Int×Int)}(hG:Le G m.b.get)(hr:RV G om0 (ybc ls) u)(hv:VR φ u u')(hR:Rel φ M w)(hs:Sub m M)(hI:∀l∈ls,I64 l.1/\I64 l.2):ybmw w u' ls:=by
 refine ybxc hG hr hv hR hs rfl fun k x b o L L' hx hL hL' hc=>?_;have hxe:ls.getD k (0,0)=x:=by simp[zH,hx]
 rw[hxe]at hL;cases hL with
 | cons a b =>
   cases b with
   | cons a2 b2 =>
     cases b2
     cases a.int_inv
     cases a2.int_inv
     obtain⟨v1,v2,rfl,h1,h2⟩:=yvj hL';have:=h1.eq_simple rfl;subst this;have:=h2.eq_simple rfl;subst this;exact⟨hc 0 _ rfl,hc 1 _ rfl,hI x (zF hx)⟩
theorem ycap{ps:List (List (Int×Int))}(hG:Le G m.b.get)(hr:RV G om0 (ybe ps) u)(hv:VR φ u u')(hR:Rel φ M w)(hs:Sub m M)(hI:∀ls∈ps,∀l∈ls,I64 l.1/\I64 l.2):yvn w u' ps:=by
 refine ybxc hG hr hv hR hs rfl fun k x b o L L' hx hL hL' hc=>?_;have hxe:ps.getD k []=x:=by simp[zH,hx]
 rw[hxe]at hL;cases hL with
 | cons a b =>
   cases b
   obtain⟨v',rfl,hvv⟩:=ygm hL';exact⟨v',hc 0 _ rfl,ybws hG a hvv hR hs (hI x (zF hx))⟩
theorem ycsv{c:List (List Int)}(hG:Le G m.b.get)(hr:RV G om0 (ybj c) u)(hv:VR φ u u')(hR:Rel φ M w)(hs:Sub m M)(hI:ybra c):ycdo w u' c:=by
 refine ybxc hG hr hv hR hs rfl fun k x b o L L' hx hL hL' hc=>?_;have hxe:c.getD k []=x:=by simp[zH,hx]
 rw[hxe]at hL;cases hL with
 | cons a b =>
   cases b
   obtain⟨v',rfl,hvv⟩:=ygm hL';exact⟨v',hc 0 _ rfl,ints_at hG a hvv hR hs (hI x (zF hx))⟩
theorem ydeb{g:Gr}(hG:Le G m.b.get)(hr:RV G om0 (grV g) u)(hv:VR φ u u')(hR:Rel φ M w)(hs:Sub m M)(hI:GrI g):GrAt w u' g:=by
 obtain⟨L,rfl,hL⟩:=hr.ag_inv;cases hL with
 | cons a b =>
   cases b with
   | cons a2 b2 =>
     cases b2
     obtain⟨L',rfl,hL'⟩:=hv.agg_inv;obtain⟨v1,v2,rfl,h1,h2⟩:=yvj hL';exact⟨v1,v2,rfl,ints_at hG a h1 hR hs hI.1,ycap hG a2 h2 hR hs hI.2⟩
end
theorem yblf {g:FuncId}{args:List SV}{r:SV}{v:Value}(hg:∃fn c,Tryz.prog.funcs[g]?=some fn/\fn.body=some c) (hrv:∀F,RV F om0 r v) (hvr:∀φ,VR φ v v)
 (h:∀(G:AM) (m:Mem) (us:List Value),Le G m.b.get->RVL G om0 args us->∀φ M w us',Rel φ M w->Sub m M->VRL φ us us'->Calls zA g us'.toArray w fun e w'=>e = .returned v/\Below w.heap.size w w'):Returns zA g args r:=by
 intro G m us hw hle hr;refine⟨v,enterM m,r,yjn yrn hg fun φ M w us' hR hs hv=>(h G m us hle hr φ M w us' hR hs hv).mono ?_,zG _,Le.refl _,rfl,hrv _⟩;rintro e w' ⟨rfl,hb⟩;exact⟨v,rfl,hvr φ,hb⟩
theorem rvl1{F:AM}{ω:Om}{a:SV}{us:List Value}(h:RVL F ω [a] us):∃u,us=[u]/\RV F ω a u:=by
 cases h with|cons x y=>cases y;exact⟨_,rfl,x⟩
theorem rvl2{F:AM}{ω:Om}{a b:SV}{us:List Value}(h:RVL F ω [a,b] us):∃u v,us=[u,v]/\RV F ω a u/\RV F ω b v:=by
 cases h with|cons x y=>obtain⟨v,rfl,q⟩:=rvl1 y;exact⟨_,v,rfl,x,q⟩
end Sh
end
section
namespace Sh
open Go Ev Go.RowKit Go.ChangeShapes Go.WideShapes Go.ChangeAt
def ybyw(w:World)(g:SV)(v:Value):Prop:=∃u,absV w.heap.size v=some u/\RV (memW w).b.get om0 g u
def ybyt(w:World)(g:List SV)(cs:List Value):Prop:=∃L,cs.map (absV w.heap.size)=L.map some/\RVL (memW w).b.get om0 g L
theorem ybyt.nil(w:World):ybyt w [] []:=⟨[],rfl,.nil⟩
theorem ybyw.cons{w:World}{g:SV}{v:Value}{gs:List SV}{cs:List Value}(h:ybyw w g v)(t:ybyt w gs cs):ybyt w (g::gs) (v::cs):=by
 obtain⟨u,h1,h2⟩:=h;obtain⟨L,h3,h4⟩:=t;exact⟨u::L,by rw[zV,zV,h1,h3],.cons h2 h4⟩
theorem ybzd(w:World)(k:IntKind)(n:Int):ybyw w (.i k n) (.int k n):=⟨.int k n,rfl,.i⟩
section
variable {H:Type}{enc:TypeId×Value->H}{P:Program}{w:World}{base:Nat}{held:Bool}
end
section
variable {H:Type}{enc:TypeId×Value->H}{w:World}{base:Nat}{held:Bool}{n:Nat}{v:Value}{x:DataW H×List MemPlace}
end
theorem ybjd {P:Program}{g:FuncId}{args:List SV}{x:Bool}{us':List Value}{w:World}(h:Returns P g args (.b x)) (hg:∃fn c,P.funcs[g]?=some fn/\fn.body=some c) (hn:ymg P) (hG:GlW w)
 {us:List Value}(ha:RVL (memW w).b.get om0 args us) (hv:VRL (phiW w) us us'):Calls P g us'.toArray w fun e w'=>e = .returned (.bool x)/\Below w.heap.size w w' :=
 ybxt h hg hn hG ha hv (fun F u hu=>by cases hu;rfl) (fun φ v' hv'=>hv'.eq_simple rfl)
end Sh
end
end Go.Proofs.YtiejahgklcjhkaaGreatDoor
