/- Joined. -/
import Derived.Test.YtiejahgklcjhkaaGreatDoorPkT8
import Derived.Deep.Matrix
import Derived.Lib.SmallJoins
import Derived.Test.YtiejahgklcjhkaaGreatDoorPkT7
set_option linter.unusedSimpArgs false
set_option linter.unusedVariables false
set_option maxRecDepth 8000
open List renaming getElem?_eq_getElem→zA,getElem?_set→zD,findIdx?_eq_some_iff_getElem→zH,take_succ_eq_append_getElem→zI,range→zL,getD→zM,getElem?_replicate→zN,foldl_append→zO,mem_zipIdx_iff_getElem?→zS,getElem?_zip_eq_some→zU,findIdx?_eq_none_iff→zV,take_length→zW,getElem_mem→zY,all_eq_true→zZ,findIdx?_append→zAB,countP_append→zAC,ext_getElem→zAG,countP_cons→zAH,length_nil→zAI,range_succ→zAJ,replicate→zAK,any_cons→zAL,length→zAP
open Go.Proofs.Tryz renaming prog→zB
open Nat renaming reduceEqDiff→zC,le_refl→zF,reduceAdd→zG,eq_zero_or_pos→zT,lt_or_ge→zX,lt_trichotomy→zAD,zero_le→zAF,zero_add→zAM,reduceLT→zAO
open Int renaming toNat_natCast→zJ,natCast_zero→zAA,le_refl→zAE,le_trans→zAN
open Bool renaming and_eq_true→zK
open Array renaming getElem?_eq_none→zQ
open Go
namespace Go.Proofs.YtiejahgklcjhkaaGreatDoor
section
open Go.ChangeShapes Go.WideShapes Go.ChangeAt Go.RowKit
theorem ybvl{α:Type}{p:Nat->α->Prop}:∀(n:Nat),(∀i,i<n->∃x,p i x)->∃xs:List α,xs.length=n/\∀(j:Nat) (x:α),xs[j]?=some x->p j x
 |0,_=>⟨[],rfl,by simp⟩
 | n + 1,h=>by
   obtain⟨xs,h1,h2⟩:=ybvl n fun i hi=>h i (by omega)
   obtain⟨x,hx⟩:=h n (by omega)
   refine⟨xs++[x],by simp[h1],fun j y hy=>?_⟩
   by_cases hj:j<xs.length
   ·rw[List.getElem?_append_left hj]at hy;exact h2 j y hy
   ·rw[List.getElem?_append_right (by omega)]at hy
    have:j-xs.length=0:=by
     rcases zT (j-xs.length)with q|q
     ·exact q
     ·rw[List.getElem?_eq_none (by simp;omega)]at hy;cases hy
    rw[this]at hy;simp at hy;subst hy;obtain rfl:j=n:=by omega
    exact hx
section
variable {H:Type}{enc:TypeId×Value->H}{P:Program}{w:World}{base:Nat}{held:Bool}
theorem wf_i64{n:Int}(h:(Lit.int .i64 n).wf=true):I64 n:=by
 simp only[Lit.wf,zK,decide_eq_true_eq]at h;have e1:IntKind.i64.min = -9223372036854775808:=rfl;have e2:IntKind.i64.max=9223372036854775807:=rfl;rw[e1,e2]at h;exact h
end
theorem own:ownKnob Tryz.prog.godebug=Option.none:=by kernel_rfl
theorem laidOut:laidOutB zB=true:=by kernel_rfl
section
variable {H:Type}{enc:TypeId×Value->H}{w:World}{base:Nat}{held:Bool}{n:Nat}{v:Value}{x:DataW H×List MemPlace}
end
end
section
namespace Sh
open Go Ev Go.RowKit
noncomputable def ybas{α:Type}(t:T α):Nat->List (Option α)->T α
 |_,[]=>t
 |i,x::l=>ybas (T.set (Nat.succ i) t i x) (i+1) l
theorem ymh{α:Type}:∀(l:List (Option α)) (t:T α) (i j:Nat),(ybas t i l).get j=if i<=j/\j<i+l.length then(l[j-i]?).join else t.get j
 |[],t,i,j=>by rw[if_neg (by simp)];rfl
 | x :: l,t,i,j=>by
   unfold ybas;rw[ymh l _ _ j]
   by_cases c:i+1<=j/\j<i+1+l.length
   ·rw[if_pos c,if_pos (by simp;omega),show j-i=(j-(i+1))+1 by omega]
    rfl
   ·rw[if_neg c,T.set_at]
    by_cases q:j=i
    ·subst q;rw[if_pos rfl,if_pos (by simp)]
     simp
    ·rw[if_neg q,if_neg (by simp;omega)]
def absV(Z:Nat)(v:Value):Option Value:=if simple v then some v else match v with
 |.slice (some ⟨b,o,none⟩) n c=>if n<=c/\c<=9223372036854775807 then(if c=0 then some (.slice (some ⟨Z,0,none⟩) n CU)else if b<=Z then some (.slice (some ⟨b,o,none⟩) n CU)else none)else none
 |.slice (some ⟨_,_,some _⟩) n c=>if n<=c/\c=0 then some (.slice (some ⟨Z,0,none⟩) n CU)else none
 |_=>none
def isU8:Value->Bool
 |.int .u8 _=>true
 |_=>false
noncomputable def absB(Z:Nat)(w:World)(i:Nat):Option ABlk:=match w.heap[i]? with
 |some (.cells c _ _)=>if c.toList.all isU8=true then none else some (.cells (ybas .leaf 0 (c.toList.map (absV Z))) c.size CU 0)
 |_=>none
def phiW(w:World):Phi:=fun i=>match w.heap[i]? with
 |some (.cells c _ _)=>some ⟨i,0,c.size,0,w.heap[i]?⟩
 |_=>if i<=w.heap.size then some ⟨i,0,0,0,none⟩else none
noncomputable def memW(w:World):Mem:=⟨w.heap.size+1,ybas .leaf 0 ((zL w.heap.size).map (absB w.heap.size w)),w.heap.size+1⟩
theorem ykb{w:World}{i:Nat}{b:ABlk}:(memW w).b.get i=some b↔absB w.heap.size w i=some b:=by
 show(ybas .leaf 0 _).get i=some b↔_;rw[ymh]
 by_cases h:i<w.heap.size
 ·rw[if_pos (by simpa using h)]
  simp[h]
 ·rw[if_neg (by simpa using h),T.get_leaf]
  have:absB w.heap.size w i=none:=by unfold absB;rw[zQ (by omega)]
  rw[this]
theorem ybdv(w:World):Wf (memW w):=fun i b h=>by
 rw[ykb]at h;show i<w.heap.size+1;unfold absB at h;split at h
 ·rename_i hc;have:=(Array.getElem?_eq_some_iff.1 hc).1;omega
 ·cases h
theorem yir{w:World}{v u:Value}(h:absV w.heap.size v=some u):VR (phiW w) u v:=by
 have hZ:∃l,phiW w w.heap.size=some l:=by
  unfold phiW;rw[zQ (zF _)];simp
 have hφ:∀b,b<=w.heap.size->∃sz ob,phiW w b=some ⟨b,0,sz,0,ob⟩:=by
  intro b hb;unfold phiW;split
  ·exact⟨_,_,rfl⟩
  ·rw[if_pos hb];exact⟨_,_,rfl⟩
 unfold absV at h;split at h
 ·rename_i hs;cases h;exact .simple hs
 ·split at h
  ·rename_i b o n c _
   split at h
   ·rename_i hc
    split at h
    ·rename_i h0
     cases h
     obtain⟨l,hl⟩:=hZ;exact .slice hl hc.1 (fun q=>absurd rfl q) hc.2 (.inr h0)
    ·split at h
     ·rename_i hbl
      cases h
      obtain⟨sz,ob',hl⟩:=hφ b hbl;exact .slice hl hc.1 (fun q=>absurd rfl q) hc.2 (.inl ⟨by simp,.inl rfl⟩)
     ·cases h
   ·cases h
  ·rename_i b o sp n c _
   split at h
   ·rename_i hc
    cases h
    obtain⟨l,hl⟩:=hZ;exact .slice hl hc.1 (fun q=>absurd rfl q) (by omega) (.inr hc.2)
   ·cases h
  ·cases h
theorem ycep:∀x,ycbe=some x->x.2.all isU8=true:=by
 intro x hx;unfold ycbe at hx
 first|(cases hx;done)|(cases hx;rfl)
theorem relW{w:World}(hG:GlW w):Rel (phiW w) (memW w).b.get w:=by
 have hblk:∀i b,(memW w).b.get i=some b->∃l,phiW w i=some l/\l.blk=i/\l.ob=w.heap[i]?/\BR (phiW w) l w b:=by
  intro i b hb;rw[ykb]at hb;unfold absB at hb;split at hb
  ·rename_i c e fz hc
   split at hb
   ·cases hb
   cases hb
   refine⟨⟨i,0,c.size,0,w.heap[i]?⟩,by unfold phiW;rw[hc],rfl,rfl,rfl,by simp,c.toList,e,fz,⟨fun q=>absurd rfl q,fun o ho=>ho⟩,by simpa using hc,by simp,fun j v hj hg=>?_⟩
   rw[ymh]at hg;split at hg
   ·simp only[Nat.sub_zero,List.getElem?_map]at hg;cases hcj:c.toList[j]? with
    |none=>rw[hcj]at hg;cases hg
    | some x =>
      rw[hcj]at hg;have hg:absV w.heap.size x=some v:=by simpa using hg
      exact⟨x,by rw[zAM];exact hcj,yir hg⟩
   ·rw[T.get_leaf]at hg;cases hg
  ·cases hb
 refine⟨⟨fun i b hb=>by obtain⟨l,h1,_,_,h2⟩:=hblk i b hb;exact⟨l,h1,h2⟩,fun i j x y li lj hne hx hy hi hj=>?_⟩,fun x hx=>⟨hG x hx,fun⟨i,b,l,h1,h2,h3⟩=>?_⟩⟩
 rotate_left
 ·obtain⟨l',k1,k2,_⟩:=hblk i b h1;rw[h2]at k1;cases k1
  rw[h3]at k2;obtain⟨e,fz,q⟩:=hG x hx;rw[ykb]at h1;unfold absB at h1;rw[<-k2,q]at h1;simp only at h1;rw[if_pos (by simpa using ycep x hx)]at h1
  cases h1
 obtain⟨l,h1,h2,_⟩:=hblk i x hx;obtain⟨l',h3,h4,_⟩:=hblk j y hy;rw[hi]at h1;cases h1
 rw[hj]at h3;cases h3
 rw[h2,h4];exact hne
theorem ycxt{w:World}{i:Nat}{b:ABlk}{l:Ev.Loc}(hb:(memW w).b.get i=some b)(hl:phiW w i=some l):l.blk=i/\∃o,l.ob=some o/\w.heap[i]?=some o:=by
 rw[ykb]at hb;unfold absB at hb;split at hb
 ·rename_i c e fz hc
  unfold phiW at hl;rw[hc]at hl;cases hl
  exact⟨rfl,_,rfl,hc⟩
 ·cases hb
theorem yder(w:World)(n:Nat):yfz (phiW w) (memW w).next n:=by
 intro i h1 _;have h1:w.heap.size+1<=i:=h1;unfold phiW;rw[zQ (by omega)]
 simp only;rw[if_neg (by omega)]
theorem ycce {P:Program}{g:FuncId}{args:List SV}{r:SV}{v:Value}{us us':List Value}{w:World}(h:Returns P g args r) (hg:∃fn c,P.funcs[g]?=some fn/\fn.body=some c) (hn:yog P) (hG:GlW w)
 (ha:RVL (memW w).b.get om0 args us) (hv:VRL (phiW w) us us') (hr:∀F u,RV F om0 r u->u=v) (hat:∀φ v',VR φ v v'->v'=v):Calls P g us'.toArray w fun e w'=>e = .returned v/\Below w.heap.size w w':=by
 obtain⟨u,m',x,h1,h2,h3,rfl,h5⟩:=h (memW w).b.get (memW w) us (ybdv w) (Le.refl _) ha;have hu:=hr _ _ h5;subst hu;have hs:=(h1 (ybdv w)).2 (phiW w) (memW w).b.get w us' (relW hG) (fun i b hb=>hb) hv (yder w _);obtain⟨fn,c,k1,k2⟩:=hg;rcases hs with⟨_,hc⟩|⟨v',w',hrun,_⟩
 ·refine hc.mono ?_;rintro e w' ⟨v',rfl,φ',M',hgd,hvr⟩;rw[hat _ _ hvr];refine⟨rfl,hgd.wg.os,hgd.wg.tape,hgd.wg.output,hgd.wg.size,fun k hk=>?_⟩
  by_cases hi:Img (phiW w) (memW w).b.get k
  ·obtain⟨i,b,l,e1,e2,e3⟩:=hi;obtain⟨k4,o,k5,k6⟩:=ycxt e1 e2;have hik:i=k:=k4.symm.trans e3;subst hik;have hlt:i<(memW w).next:=ybdv w i b e1
   have hM:M' i=some b:=by
    rw[hgd.frame i (fun q=>by omega) (.inr (Nat.lt_of_lt_of_le hlt h2))]
    exact e1
   obtain⟨l',q1,q2⟩:=hgd.rel.blk i b hM;rw[hgd.le i l e2]at q1;cases q1
   have hcells:∃c n,b = .cells c n CU 0:=by
    rw[ykb]at e1;unfold absB at e1;split at e1
    ·split at e1
     ·cases e1
     ·cases e1;exact⟨_,_,rfl⟩
    ·cases e1
   obtain⟨c',n',rfl⟩:=hcells;obtain⟨_,_,cs,e',fz,h0,_⟩:=q2;rw[k4]at h0;rw[h0.2 o k5,k6]
  ·exact hgd.wg.keep k hk hi
 ·rw[ycu hn k1 k2]at hrun;cases hrun
end Sh
end
section
namespace Sh
open Go Ev
theorem ydid {g:FuncId}{fn:Func}{sc:SC}{rs:List SR}(hg:Tryz.prog.funcs[g]?=some fn) (hcmp:fn.body.bind (cmp zB fn.ntmps)=some sc) (hrs:cmpR zB fn.results.toList=some rs)
 {mu:List FuncId}{args:List SV}{Q:SV->Prop}(h:vc ⟨Ct zB,Cm zB,ItC zB,[],mu⟩ sc (retK rs Q) ⟨slots args 0,[]⟩):Ct zB g args Q:=by
 obtain⟨c,h1,h2⟩:=bind_some hcmp;exact ycff mix ytg hg h1 h2 hrs h
theorem ydod {g:FuncId}{fn:Func}{sc:SC}{rs:List SR}(hg:Tryz.prog.funcs[g]?=some fn) (hcmp:fn.body.bind (cmp zB fn.ntmps)=some sc) (hrs:cmpR zB fn.results.toList=some rs)
 {pr:List Nm}{mu:List FuncId}{o:Own}{args:List SV}{Q:SV->Own->Prop}(h:vc ⟨Ct zB,Cm zB,ItC zB,pr,mu⟩ sc (retM rs pr Q) ⟨slots args 0,o⟩):Cm zB g pr o args Q:=by
 obtain⟨c,h1,h2⟩:=bind_some hcmp;exact ybzp mix ytg hg h1 h2 hrs h
def Fn(g:FuncId)(c:SC)(rs:List SR):Prop:=∀(args:List SV) (Q:SV->Prop),vc ⟨Ct zB,Cm zB,ItC zB,[],[]⟩ c (retK rs Q) ⟨slots args 0,[]⟩->Ct zB g args Q
def FnU(g:FuncId)(c:SC)(rs:List SR):Prop:=∀(mu:List FuncId) (args:List SV) (Q:SV->Prop),vc ⟨Ct zB,Cm zB,ItC zB,[],mu⟩ c (retK rs Q) ⟨slots args 0,[]⟩->Ct zB g args Q
def FnM(g:FuncId)(c:SC)(rs:List SR):Prop:=∀(pr:List Nm) (mu:List FuncId) (o:Own) (args:List SV) (Q:SV->Own->Prop),vc ⟨Ct zB,Cm zB,ItC zB,pr,mu⟩ c (retM rs pr Q) ⟨slots args 0,o⟩->Cm zB g pr o args Q
section
variable {g:FuncId}{fn:Func}{sc:SC}{rs:List SR}(hg:Tryz.prog.funcs[g]?=some fn) (hcmp:fn.body.bind (cmp zB fn.ntmps)=some sc) (hrs:cmpR zB fn.results.toList=some rs)
include hg hcmp hrs
theorem fn_0:Fn g sc rs:=fun _ _ h=>ydid hg hcmp hrs h
theorem fn_u:FnU g sc rs:=fun _ _ _ h=>ydid hg hcmp hrs h
theorem fn_m:FnM g sc rs:=fun _ _ _ _ _ h=>ydod hg hcmp hrs h
end
def o3(x:SOp)(d a:Nat):SOper:=⟨x,some d,none,a⟩
def o0(x:SOp)(a:Nat):SOper:=⟨x,none,none,a⟩
abbrev LO:=List SOper
def mv'(x d a:Nat):SOper:=⟨.mv (.tmp x),some d,none,a⟩
def bn'(op:BinOp)(x y d a:Nat):SOper:=⟨.bin op (.tmp x) (.tmp y),some d,none,a⟩
def ld'(ag:Bool)(n x d a:Nat):SOper:=⟨.load ag n (.tmp x),some d,none,a⟩
def fa'(o n x d a:Nat):SOper:=⟨.faddr o n (.tmp x),some d,none,a⟩
def ix'(z x k d a:Nat):SOper:=⟨.idx z (.tmp x) (.tmp k),some d,none,a⟩
def ln'(x d a:Nat):SOper:=⟨.len (.tmp x),some d,none,a⟩
def xt'(x k d a:Nat):SOper:=⟨.extract (.tmp x) k,some d,none,a⟩
def cl'(g:FuncId)(xs:List Nat)(d a:Nat):SOper:=⟨.call (.func g) (xs.map .tmp),some d,none,a⟩
def ci'(n:Int):Operand:=.const (.int .i64 n)
attribute [go_sem] o3 o0 mv' bn' ld' fa' ix' ln' xt' cl' ci'
attribute [go_sem] ydpc yczg yccz ybwb ydpf ydcb ydml ydce ycbi ydbp ycap ybab yvz ybmv ybdt puts ycxp
attribute [go_sem] ydli ydpp ydgz yzx ybki ybtn yxk ybfi ybkz yblz ybnu ybfy ycfh ybey ycbn
attribute [go_sem] ypq Fam.at Prod.mk.injEq ycyh yddg ydbz yczh ydco ycyu ybku oldX oldV yjf yls ycai ydda gb_x ydpe resX yhr slots ycei
attribute [go_sem] ycca ybro runO opO ycai xOp SS.get SS.pget SS.gets SS.lit look lookO SS.put SS.own ydbj ydak ycyb ybjk ycbr ycbm ycfr
attribute [go_sem] yccd ycco ycfa yccg ybim simple ymr ytp yyx part idxX natX ypd ybmp xbin xun eqL splice fill OB.set ofV fits ydax ybhi
attribute [go_sem] allP SRec.no SRec.pure clash nmem List.isEmpty_nil List.isEmpty_cons List.drop List.take List.all List.any List.map zAP List.head? List.append
attribute [go_sem] List.nil_append List.append_nil List.cons_append List.all_cons List.all_nil List.drop_succ_cons List.drop_zero List.take_succ_cons List.take_zero List.drop_nil
attribute [go_sem] List.take_nil List.length_cons zAI List.map_cons List.map_nil List.getElem?_cons_zero List.getElem?_cons_succ List.elem zJ zAM
attribute [go_sem] Nat.add_zero if_true if_false ite_true ite_false Option.isNone Option.isNone_none Option.map_some Option.map_none Bool.not_true Bool.not_false Bool.true_or
attribute [go_sem] Bool.or_true Bool.false_or Bool.or_false Bool.and_true Bool.true_and Bool.and_false Bool.false_and Bool.and_self Bool.or_self true_and and_true and_self
attribute [go_sem] true_implies false_implies implies_true forall_const Nat.lt_add_one Nat.one_pos Nat.zero_lt_one Nat.lt_irrefl zF decide_true decide_false Bool.false_eq_true
attribute [go_sem] Bool.true_eq_false forall_eq BEq.rfl beq_self_eq_true decide_eq_true_eq decide_eq_false_iff_not beq_iff_eq beq_eq_false_iff_ne bne_iff_ne bne_eq_false_iff_eq
attribute [go_sem] Bool.not_eq_true Bool.not_eq_false Bool.not_eq_true' Bool.not_eq_false' yddp ydaj yddx ycbx ycat ybsg ycav yccf ycaj
attribute [go_sem] ycet ybrm ydcv ydhh yddw ycbk ycba ycfg ycao yccx ybyt ybwv ybmi ybrn ybqv ybsi ybtp
attribute [go_sem] ybwy ydnz ydnx ydfk yddi ydal ycay ydam ycxw yddc ydba ycxn ydon ydpx ydpy ydjp ydfe ydcw ydnf ydnl ydlo
attribute [go_sem] ydmx ydfr ydnd ydic ydgm ybnw ycyj ycdo ycxl ydds ydag ycya yczm
attribute [go_sem] yxz ybed idxF ydkq ysh ylk own1 ybgv Tel telL yzd ybym ycxm yczj yczb ycal ycer ycdy ycbb ycar ycda
attribute [go_sem] ycez yccl ydok ydot ydpj ydmz ydhf ydgl ydkf ydjb ydlh ydkh ydhy lv nmem rid ygz ydpb ycbc yzy ydfi ydas ypi
attribute [go_sem] ysc ycjn ycvv ydld ycru yjb ydoi ydpv ydom ydkn ydis yddu ydjr ydie ydgc ydks ydni zAL List.any_nil Option.isSome
attribute [go_sem] ydde or_false false_or or_true true_or false_and exists_const exists_false List.not_mem_nil and_false
attribute [go_sem ↓] gb_t gb_f ydpw ydpr
end Sh
end
section
namespace Sh
open Go Ev
def ycqv:LO:=[o3 (.mv (ci' 0)) 4 0]
def ycvm:LO:=[mv' 0 6 0,ln' 6 7 1,o3 (.mv (ci' 0)) 8 0]
def ycuf:LO:=[bn' .lss 8 7 9 0]
def ychw:LO:=[mv' 8 10 0,mv' 10 5 1]
def ychs:LO:=[mv' 1 11 0,mv' 0 12 0,mv' 5 13 0,ix' 1 12 13 14 6,ld' false 1 14 15 14,bn' .eql 11 15 16 31]
def ycnr:LO:=[mv' 5 17 0,mv' 17 4 1]
def ycnj:LO:=[o3 (.bin .add (.tmp 8) (ci' 1)) 18 0,mv' 18 8 1]
def ycqw:LO:=[o3 (.mv (.const (.int .i64 (-1)))) 4 0]
def c165:SC:=(.seq (.reg false ycqv) (.seq (.seq (.reg false ycvm) (.block 0 (.loop (.seq (.reg false ycuf) (.seq (.cond (.tmp 9) .skip (.exit 0)) (.seq (.block 1 (.seq (.reg false ychw) (.seq (.reg false ychs) (.cond (.tmp 16) (.seq (.reg false ycnr) .ret) .skip)))) (.reg false ycnj))))))) (.seq (.reg false ycqw) .ret)))
theorem ydac:Fn 165 c165 [.t 4]:=fn_0 Tryz.func165 (by kernel_rfl) (by kernel_rfl)
def ycxd:LO:=[o3 (.mv (ci' 0)) 2 0]
def ycos:LO:=[mv' 0 5 0,ln' 5 6 1,o3 (.bin .lss (.tmp 6) (ci' 1)) 7 3]
def ycvh:LO:=[o3 (.no) 8 0,o0 (.no) 1]
def ycmj:LO:=[mv' 0 9 0,o3 (.idx 1 (.tmp 9) (ci' 0)) 10 1,ld' false 1 10 11 3,mv' 11 3 7]
def ycwq:LO:=[o3 (.mv (ci' 1)) 4 0]
def yclb:LO:=[mv' 4 12 0,mv' 0 13 0,ln' 13 14 2,bn' .lss 12 14 15 7]
def ycmd:LO:=[mv' 3 18 0,mv' 0 19 0,mv' 4 20 0,ix' 1 19 20 21 6,ld' false 1 21 22 14,o3 (.mm true (.tmp 18) (.tmp 22)) 23 31,mv' 23 3 63]
def ycnl:LO:=[mv' 4 16 0,o3 (.bin .add (.tmp 16) (ci' 1)) 17 1,mv' 17 4 3]
def ycws:LO:=[mv' 3 24 0,mv' 24 2 1]
def c160:SC:=(.seq (.reg false ycxd) (.seq (.seq (.reg false ycos) (.cond (.tmp 7) (.reg false ycvh) .skip)) (.seq (.reg false ycmj) (.seq (.seq (.reg false ycwq) (.block 0 (.loop (.seq (.seq (.reg false yclb) (.cond (.tmp 15) .skip (.exit 0))) (.seq (.block 1 (.reg false ycmd)) (.reg false ycnl)))))) (.seq (.reg false ycws) .ret)))))
theorem ydei:Fn 160 c160 [.t 2]:=fn_0 Tryz.func160 (by kernel_rfl) (by kernel_rfl)
def yclv:LO:=[o3 (.mv (.const (.bool false))) 4 0]
def ycjz:LO:=[mv' 0 6 0,ln' 6 7 1,mv' 1 8 0,ln' 8 9 4,bn' .neq 7 9 10 15]
def ycuo:LO:=[o3 (.mv (.const (.bool false))) 4 0]
def ycol:LO:=[mv' 0 11 0,ln' 11 12 1,o3 (.mv (ci' 0)) 13 0]
def ycqg:LO:=[bn' .lss 13 12 14 0]
def ycpu:LO:=[mv' 13 15 0,mv' 15 5 1]
def ycwj:LO:=[mv' 0 16 0,mv' 5 17 0,ix' 1 16 17 18 3,ld' false 1 18 19 7,mv' 1 20 0,mv' 5 21 0,ix' 1 20 21 22 48,ld' false 1 22 23 112,bn' .neq 19 23 24 255]
def ycic:LO:=[o3 (.mv (.const (.bool false))) 4 0]
def ycvr:LO:=[o3 (.bin .add (.tmp 13) (ci' 1)) 25 0,mv' 25 13 1]
def ycmo:LO:=[o3 (.mv (.const (.bool true))) 4 0]
def c164:SC:=(.seq (.reg false yclv) (.seq (.seq (.reg false ycjz) (.cond (.tmp 10) (.seq (.reg false ycuo) .ret) .skip)) (.seq (.seq (.reg false ycol) (.block 0 (.loop (.seq (.reg false ycqg) (.seq (.cond (.tmp 14) .skip (.exit 0)) (.seq (.block 1 (.seq (.reg false ycpu) (.seq (.reg true ycwj) (.cond (.tmp 24) (.seq (.reg false ycic) .ret) .skip)))) (.reg false ycvr))))))) (.seq (.reg false ycmo) .ret))))
theorem ydcc:Fn 164 c164 [.t 4]:=fn_0 Tryz.func164 (by kernel_rfl) (by kernel_rfl)
def ycqz:LO:=[o3 (.mv (.const (.bool false))) 4 0]
def ycim:LO:=[mv' 0 5 0,mv' 1 6 0,cl' 165 [5,6] 7 3,o3 (.bin .geq (.tmp 7) (ci' 0)) 8 7,mv' 8 4 15]
def c274:SC:=(.seq (.reg false ycqz) (.seq (.reg false ycim) .ret))
theorem ydbv:Fn 274 c274 [.t 4]:=fn_0 Tryz.func274 (by kernel_rfl) (by kernel_rfl)
def ycmi:LO:=[o3 (.mv (ci' 0)) 4 0]
def ycxc:LO:=[mv' 0 6 0,ln' 6 7 1,o3 (.mv (ci' 0)) 8 0]
def yctx:LO:=[bn' .lss 8 7 9 0]
def ycso:LO:=[mv' 8 10 0,mv' 10 5 1]
def yclt:LO:=[mv' 1 11 0,mv' 0 12 0,mv' 5 13 0,ix' 1 12 13 14 6,ld' false 1 14 15 14,o3 (.call (.tmp 11) [(.tmp 15)]) 16 31]
def ycuh:LO:=[mv' 5 17 0,mv' 17 4 1]
def ycnh:LO:=[o3 (.bin .add (.tmp 8) (ci' 1)) 18 0,mv' 18 8 1]
def ycnw:LO:=[o3 (.mv (.const (.int .i64 (-1)))) 4 0]
def c267:SC:=(.seq (.reg false ycmi) (.seq (.seq (.reg false ycxc) (.block 0 (.loop (.seq (.reg false yctx) (.seq (.cond (.tmp 9) .skip (.exit 0)) (.seq (.block 1 (.seq (.reg false ycso) (.seq (.reg false yclt) (.cond (.tmp 16) (.seq (.reg false ycuh) .ret) .skip)))) (.reg false ycnh))))))) (.seq (.reg false ycnw) .ret)))
theorem ydbo:Fn 267 c267 [.t 4]:=fn_0 Tryz.func267 (by kernel_rfl) (by kernel_rfl)
def ychh:LO:=[o3 (.mv (ci' 0)) 2 0]
def ycoq:LO:=[mv' 0 4 0,o3 (.bin .lss (.tmp 4) (ci' 1)) 5 1,mv' 5 6 3,⟨.mv (.tmp 0),some 7,some (6,false),7⟩,⟨.bin .gtr (.tmp 7) (ci' 43),some 8,some (6,false),15⟩,o3 (.pick (.tmp 6) (.const (.bool true)) (.tmp 8)) 9 31,mv' 9 3 63]
def ycif:LO:=[o3 (.mv (.const (.int .i64 (-1)))) 2 0]
def ycmk:LO:=[mv' 0 11 0,o3 (.bin .leq (.tmp 11) (ci' 17)) 12 1,mv' 12 10 3]
def ycko:LO:=[o3 (.mv (ci' 0)) 2 0]
def ycot:LO:=[mv' 0 14 0,o3 (.bin .leq (.tmp 14) (ci' 29)) 15 1,mv' 15 13 3]
def yckm:LO:=[o3 (.mv (ci' 1)) 2 0]
def ycjk:LO:=[mv' 0 17 0,o3 (.bin .leq (.tmp 17) (ci' 42)) 18 1,mv' 18 16 3]
def ycnn:LO:=[o3 (.mv (ci' 2)) 2 0]
def ycuz:LO:=[o3 (.mv (ci' 3)) 2 0]
def c247:SC:=(.seq (.reg false ychh) (.seq (.block 0 (.seq (.reg false ycoq) (.cond (.tmp 3) (.seq (.reg false ycif) .ret) (.seq (.reg false ycmk) (.cond (.tmp 10) (.seq (.reg false ycko) .ret) (.seq (.reg false ycot) (.cond (.tmp 13) (.seq (.reg false yckm) .ret) (.seq (.reg false ycjk) (.cond (.tmp 16) (.seq (.reg false ycnn) .ret) .skip))))))))) (.seq (.reg false ycuz) .ret)))
theorem ydec:Fn 247 c247 [.t 2]:=fn_0 Tryz.func247 (by kernel_rfl) (by kernel_rfl)
def ycwe:LO:=[o3 (.mv (ci' 0)) 4 0]
def ycij:LO:=[mv' 1 7 0,o3 (.bin .lss (.tmp 7) (ci' 0)) 8 1,mv' 8 9 3,⟨.mv (.tmp 1),some 10,some (9,false),7⟩,⟨.mv (.tmp 0),some 11,some (9,false),7⟩,⟨.len (.tmp 11),some 12,some (9,false),23⟩,⟨.bin .geq (.tmp 10) (.tmp 12),some 13,some (9,false),63⟩,o3 (.pick (.tmp 9) (.const (.bool true)) (.tmp 13)) 14 127]
def ycth:LO:=[o3 (.mv (.const (.int .i64 (-1)))) 4 0]
def ycip:LO:=[o3 (.mv (ci' 1)) 5 0]
def ycla:LO:=[mv' 1 15 0,mv' 0 16 0,ln' 16 17 2,bn' .lss 15 17 18 7]
def ycum:LO:=[mv' 0 21 0,mv' 1 22 0,ix' 2 21 22 23 3,fa' 0 1 23 24 7,ld' false 1 24 25 15,cl' 247 [25] 26 31,mv' 26 6 63]
def ycgo:LO:=[mv' 6 27 0,o3 (.bin .lss (.tmp 27) (ci' 0)) 28 1]
def ycis:LO:=[o3 (.mv (.const (.int .i64 (-1)))) 4 0]
def ycug:LO:=[mv' 5 29 0,mv' 6 30 0,o3 (.bin .sub (.tmp 30) (ci' 1)) 31 2,bn' .add 29 31 32 7,mv' 32 5 15]
def ybtx:LO:=[mv' 5 33 0,o3 (.bin .eql (.tmp 33) (ci' 0)) 34 1]
def ybnv:LO:=[mv' 1 35 0,o3 (.bin .add (.tmp 35) (ci' 1)) 36 1,mv' 36 4 3]
def ycge:LO:=[mv' 1 19 0,o3 (.bin .add (.tmp 19) (ci' 1)) 20 1,mv' 20 1 3]
def ybvd:LO:=[o3 (.mv (.const (.int .i64 (-1)))) 4 0]
def c231:SC:=(.seq (.reg false ycwe) (.seq (.seq (.reg false ycij) (.cond (.tmp 14) (.seq (.reg false ycth) .ret) .skip)) (.seq (.seq (.reg false ycip) (.block 0 (.loop (.seq (.seq (.reg false ycla) (.cond (.tmp 18) .skip (.exit 0))) (.seq (.block 1 (.seq (.reg false ycum) (.seq (.seq (.reg false ycgo) (.cond (.tmp 28) (.seq (.reg false ycis) .ret) .skip)) (.seq (.reg false ycug) (.seq (.reg false ybtx) (.cond (.tmp 34) (.seq (.reg false ybnv) .ret) .skip)))))) (.reg false ycge)))))) (.seq (.reg false ybvd) .ret))))
theorem ydae:Fn 231 c231 [.t 4]:=fn_0 Tryz.func231 (by kernel_rfl) (by kernel_rfl)
def ycsg:LO:=[o3 (.box 27 (.tmp 0)) 3 0,o3 (.mv (ci' 0)) 6 0]
def ycox:LO:=[fa' 1 1 3 9 0,ld' false 1 9 10 1,mv' 1 11 0,ix' 1 10 11 12 7,ld' false 1 12 13 15,ln' 13 14 31,o3 (.mv (ci' 0)) 15 0]
def ycrf:LO:=[bn' .lss 15 14 16 0]
def ycjx:LO:=[mv' 15 17 0,ix' 2 13 15 18 0,ld' true 2 18 19 2,o3 (.alloc 95 1 [.i .i64 0,.i .i64 0]) 8 0,mv' 17 7 15,o0 (.store 2 (.tmp 8) (.tmp 19)) 31]
def yctz:LO:=[mv' 2 20 0,ld' true 2 8 21 0,o3 (.call (.tmp 20) [(.tmp 21)]) 22 3]
def ycvw:LO:=[mv' 7 23 0,mv' 23 6 1]
def ycmz:LO:=[o3 (.bin .add (.tmp 15) (ci' 1)) 24 0,mv' 24 15 1]
def ycvy:LO:=[o3 (.mv (.const (.int .i64 (-1)))) 6 0]
def c162:SC:=(.seq (.reg false ycsg) (.seq (.seq (.reg false ycox) (.block 0 (.loop (.seq (.reg false ycrf) (.seq (.cond (.tmp 16) .skip (.exit 0)) (.seq (.block 1 (.seq (.reg false ycjx) (.seq (.reg false yctz) (.cond (.tmp 22) (.seq (.reg false ycvw) .ret) .skip)))) (.reg false ycmz))))))) (.seq (.reg false ycvy) .ret)))
theorem ydbm:Fn 162 c162 [.t 6]:=fn_0 Tryz.func162 (by kernel_rfl) (by kernel_rfl)
def ychx:LO:=[o3 (.box 27 (.tmp 0)) 3 0,o3 (.mv (ci' 0)) 6 0]
def ycki:LO:=[fa' 1 1 3 9 0,ld' false 1 9 10 1,mv' 1 11 0,ix' 1 10 11 12 7,ld' false 1 12 13 15,ln' 13 14 31,o3 (.mv (ci' 0)) 15 0]
def ycux:LO:=[bn' .lss 15 14 16 0]
def ycoi:LO:=[mv' 15 17 0,ix' 2 13 15 18 0,ld' true 2 18 19 2,o3 (.alloc 95 1 [.i .i64 0,.i .i64 0]) 8 0,mv' 17 7 15,o0 (.store 2 (.tmp 8) (.tmp 19)) 31]
def ycji:LO:=[fa' 0 1 8 20 0,ld' false 1 20 21 1,mv' 2 22 0,bn' .eql 21 22 23 7]
def ycmc:LO:=[mv' 7 24 0,mv' 24 6 1]
def ycoy:LO:=[o3 (.bin .add (.tmp 15) (ci' 1)) 25 0,mv' 25 15 1]
def ycrr:LO:=[o3 (.mv (.const (.int .i64 (-1)))) 6 0]
def c170:SC:=(.seq (.reg false ychx) (.seq (.seq (.reg false ycki) (.block 0 (.loop (.seq (.reg false ycux) (.seq (.cond (.tmp 16) .skip (.exit 0)) (.seq (.block 1 (.seq (.reg false ycoi) (.seq (.reg false ycji) (.cond (.tmp 23) (.seq (.reg false ycmc) .ret) .skip)))) (.reg false ycoy))))))) (.seq (.reg false ycrr) .ret)))
theorem ycxs:Fn 170 c170 [.t 6]:=fn_0 Tryz.func170 (by kernel_rfl) (by kernel_rfl)
def ycpb:LO:=[o3 (.box 27 (.tmp 0)) 1 0,o3 (.mv (.const (.int .u32 0))) 2 0]
def ycsj:LO:=[fa' 0 1 1 3 0,ld' false 1 3 4 1,ln' 4 5 3,o3 (.bin .shl (.const (.int .u32 1)) (.tmp 5)) 6 7,o3 (.bin .sub (.tmp 6) (.const (.int .u32 1))) 7 15,mv' 7 2 31]
def c109:SC:=(.seq (.reg false ycpb) (.seq (.reg false ycsj) .ret))
theorem ycyg:Fn 109 c109 [.t 2]:=fn_0 Tryz.func109 (by kernel_rfl) (by kernel_rfl)
def ycwc:LO:=[o3 (.box 27 (.tmp 0)) 2 0,o3 (.mv (.const (.slice none 0 0))) 4 0]
def ycls:LO:=[fa' 1 1 2 11 0,ld' false 1 11 12 1,ln' 12 13 3,o3 (.mk 3 1 8 [.i .i64 0] (.tmp 13) (.tmp 13)) 14 7,mv' 14 5 15]
def ycnc:LO:=[mv' 5 15 0,ln' 15 16 1,o3 (.mv (ci' 0)) 17 0]
def ybvm:LO:=[bn' .lss 17 16 18 0]
def ycwn:LO:=[mv' 17 19 0,mv' 19 6 1]
def ycgf:LO:=[mv' 5 20 0,mv' 6 21 0,ix' 1 20 21 22 3,o0 (.store 1 (.tmp 22) (.const (.int .i64 (-1)))) 7]
def ycsd:LO:=[o3 (.bin .add (.tmp 17) (ci' 1)) 23 0,mv' 23 17 1]
def yctp:LO:=[mv' 5 24 0,mv' 1 25 0,ix' 1 24 25 26 3,o0 (.store 1 (.tmp 26) (ci' 0)) 7]
def yciq:LO:=[mv' 1 27 0,o3 (.bslice 3 1 1 [.i .i64 0] [(0,1,(.tmp 27))]) 28 1,mv' 28 7 3]
def ybsj:LO:=[mv' 7 29 0,ln' 29 30 1,o3 (.bin .gtr (.tmp 30) (ci' 0)) 31 3]
def ybyu:LO:=[mv' 7 32 0,o3 (.idx 1 (.tmp 32) (ci' 0)) 33 1,ld' false 1 33 34 3,mv' 34 8 7]
def ybrf:LO:=[mv' 7 35 0,o3 (.cut 1 (.tmp 35) (some (ci' 1)) none) 36 1,mv' 36 7 3]
def ybqu:LO:=[fa' 1 1 2 37 0,ld' false 1 37 38 1,mv' 8 39 0,ix' 1 38 39 40 7,ld' false 1 40 41 15,ln' 41 42 31,o3 (.mv (ci' 0)) 43 0]
def ywm:LO:=[bn' .lss 43 42 44 0]
def yxj:LO:=[ix' 2 41 43 45 0,ld' true 2 45 46 1,o3 (.alloc 95 1 [.i .i64 0,.i .i64 0]) 10 0,o0 (.store 2 (.tmp 10) (.tmp 46)) 7]
def yyb:LO:=[mv' 5 47 0,fa' 0 1 10 48 0,ld' false 1 48 49 2,ix' 1 47 49 50 7,ld' false 1 50 51 15,o3 (.bin .lss (.tmp 51) (ci' 0)) 52 31]
def ywa:LO:=[mv' 5 53 0,fa' 0 1 10 54 0,ld' false 1 54 55 2,mv' 5 56 0,mv' 8 57 0,ix' 1 56 57 58 24,ld' false 1 58 59 56,o3 (.bin .add (.tmp 59) (ci' 1)) 60 120,ix' 1 53 55 61 255,o0 (.store 1 (.tmp 61) (.tmp 60)) 511]
def yxm:LO:=[mv' 7 62 0,fa' 0 1 10 63 0,ld' false 1 63 64 2,o3 (.bslice 3 1 1 [.i .i64 0] [(0,1,(.tmp 64))]) 65 6,o3 (.app 3 1 8 (.tmp 62) (.tmp 65)) 66 15,mv' 66 7 31]
def ywj:LO:=[o3 (.bin .add (.tmp 43) (ci' 1)) 67 0,mv' 67 43 1]
def ybnl:LO:=[mv' 5 68 0,mv' 68 4 1]
def c139:SC:=(.seq (.reg false ycwc) (.seq (.reg false ycls) (.seq (.seq (.reg false ycnc) (.block 0 (.loop (.seq (.reg false ybvm) (.seq (.cond (.tmp 18) .skip (.exit 0)) (.seq (.block 1 (.seq (.reg false ycwn) (.reg false ycgf))) (.reg false ycsd))))))) (.seq (.reg false yctp) (.seq (.reg false yciq) (.seq (.block 2 (.loop (.seq (.seq (.reg false ybsj) (.cond (.tmp 31) .skip (.exit 2))) (.block 3 (.seq (.reg false ybyu) (.seq (.reg false ybrf) (.seq (.reg false ybqu) (.block 4 (.loop (.seq (.reg false ywm) (.seq (.cond (.tmp 44) .skip (.exit 4)) (.seq (.block 5 (.seq (.reg false yxj) (.seq (.reg false yyb) (.cond (.tmp 52) (.seq (.reg true ywa) (.reg false yxm)) .skip)))) (.reg false ywj))))))))))))) (.seq (.reg false ybnl) .ret)))))))
theorem ydby:Fn 139 c139 [.t 4]:=fn_0 Tryz.func139 (by kernel_rfl) (by kernel_rfl)
def ycig:LO:=[o3 (.box 27 (.tmp 0)) 2 0,o3 (.mv (.const (.slice none 0 0))) 4 0]
def ycom:LO:=[ld' true 2 2 5 0,cl' 96 [5] 6 1,o3 (.un .not (.tmp 6)) 7 3,mv' 7 8 7,⟨.mv (.tmp 1),some 9,some (8,false),15⟩,⟨.bin .lss (.tmp 9) (ci' 0),some 10,some (8,false),31⟩,o3 (.pick (.tmp 8) (.const (.bool true)) (.tmp 10)) 11 63,mv' 11 12 127,⟨.mv (.tmp 1),some 13,some (12,false),255⟩,⟨.faddr 1 1 (.tmp 2),some 14,some (12,false),255⟩,⟨.load false 1 (.tmp 14),some 15,some (12,false),767⟩,⟨.len (.tmp 15),some 16,some (12,false),1791⟩,⟨.bin .geq (.tmp 13) (.tmp 16),some 17,some (12,false),4095⟩,o3 (.pick (.tmp 12) (.const (.bool true)) (.tmp 17)) 18 8191]
def ycrk:LO:=[o3 (.mv (.const (.slice none 0 0))) 4 0]
def ycjs:LO:=[ld' true 2 2 19 0,mv' 1 20 0,cl' 139 [19,20] 21 3,mv' 21 4 7]
def c161:SC:=(.seq (.reg false ycig) (.seq (.seq (.reg false ycom) (.cond (.tmp 18) (.seq (.reg false ycrk) .ret) .skip)) (.seq (.reg false ycjs) .ret)))
theorem ydar:Fn 161 c161 [.t 4]:=fn_0 Tryz.func161 (by kernel_rfl) (by kernel_rfl)
def ycle:LO:=[o3 (.mv (ci' 0)) 2 0]
def yckg:LO:=[mv' 0 3 0]
def ycxe:LO:=[o3 (.mv (ci' 1)) 2 0]
def ycmr:LO:=[o3 (.mv (ci' 0)) 2 0]
def c256:SC:=(.seq (.reg false ycle) (.seq (.seq (.reg false yckg) (.cond (.tmp 3) (.seq (.reg false ycxe) .ret) .skip)) (.seq (.reg false ycmr) .ret)))
theorem ydct:Fn 256 c256 [.t 2]:=fn_0 Tryz.func256 (by kernel_rfl) (by kernel_rfl)
def ycgr:LO:=[o3 (.mv (ci' 0)) 2 0]
def ycma:LO:=[mv' 0 3 0,o3 (.mm false (.tmp 3) (ci' 1073741824)) 4 1,o3 (.mm true (.const (.int .i64 (-1073741824))) (.tmp 4)) 5 3,mv' 5 2 7]
def c258:SC:=(.seq (.reg false ycgr) (.seq (.reg false ycma) .ret))
theorem ycyk:Fn 258 c258 [.t 2]:=fn_0 Tryz.func258 (by kernel_rfl) (by kernel_rfl)
def ycgp:LO:=[o3 (.mv (ci' 0)) 4 0]
def ycgk:LO:=[mv' 0 5 0,o3 (.bin .eql (.tmp 5) (ci' 18)) 6 1]
def yctc:LO:=[mv' 1 7 0,o3 (.un .neg (.tmp 7)) 8 1,mv' 8 4 3]
def ycpz:LO:=[mv' 1 9 0,o3 (.bin .eql (.tmp 9) (ci' 0)) 10 1,cl' 256 [10] 11 3,mv' 11 4 7]
def c237:SC:=(.seq (.reg false ycgp) (.seq (.seq (.reg false ycgk) (.cond (.tmp 6) (.seq (.reg false yctc) .ret) .skip)) (.seq (.reg false ycpz) .ret)))
theorem ydcs:Fn 237 c237 [.t 4]:=fn_0 Tryz.func237 (by kernel_rfl) (by kernel_rfl)
def ycup:LO:=[o3 (.mv (ci' 0)) 6 0]
def ycrs:LO:=[mv' 0 7 0]
def ycgx:LO:=[o3 (.bin .eql (.tmp 7) (ci' 30)) 9 0,mv' 9 8 1]
def ycuc:LO:=[mv' 1 10 0,mv' 2 11 0,bn' .mul 10 11 12 3,cl' 258 [12] 13 7,mv' 13 6 15]
def ycsy:LO:=[o3 (.bin .eql (.tmp 7) (ci' 31)) 15 0,mv' 15 14 1]
def ycly:LO:=[mv' 1 16 0,mv' 2 17 0,cl' 259 [16,17] 18 3,cl' 258 [18] 19 7,mv' 19 6 15]
def ychl:LO:=[o3 (.bin .eql (.tmp 7) (ci' 32)) 21 0,mv' 21 20 1]
def ycqy:LO:=[mv' 2 22 0,o3 (.bin .eql (.tmp 22) (ci' 0)) 23 1]
def ycoz:LO:=[o3 (.mv (ci' 0)) 6 0]
def ycmq:LO:=[mv' 1 24 0,mv' 2 25 0,mv' 1 26 0,mv' 2 27 0,cl' 259 [26,27] 28 12,bn' .mul 25 28 29 30,bn' .sub 24 29 30 63,cl' 258 [30] 31 127,mv' 31 6 255]
def ybxz:LO:=[o3 (.bin .eql (.tmp 7) (ci' 33)) 33 0,mv' 33 32 1]
def ybod:LO:=[mv' 1 34 0,mv' 2 35 0,bn' .add 34 35 36 3,cl' 258 [36] 37 7,mv' 37 6 15]
def ybyd:LO:=[o3 (.bin .eql (.tmp 7) (ci' 34)) 39 0,mv' 39 38 1]
def ybsa:LO:=[mv' 1 40 0,mv' 2 41 0,bn' .sub 40 41 42 3,cl' 258 [42] 43 7,mv' 43 6 15]
def ybop:LO:=[o3 (.bin .eql (.tmp 7) (ci' 41)) 45 0,mv' 45 44 1]
def ybru:LO:=[mv' 1 46 0,o3 (.bin .neq (.tmp 46) (ci' 0)) 47 1,mv' 47 48 3,⟨.mv (.tmp 2),some 49,some (48,true),7⟩,⟨.bin .neq (.tmp 49) (ci' 0),some 50,some (48,true),15⟩,o3 (.pick (.tmp 48) (.tmp 50) (.const (.bool false))) 51 31,cl' 256 [51] 52 63,mv' 52 6 127]
def ybzx:LO:=[o3 (.bin .eql (.tmp 7) (ci' 42)) 54 0,mv' 54 53 1]
def ybqr:LO:=[mv' 1 55 0,o3 (.bin .neq (.tmp 55) (ci' 0)) 56 1,mv' 56 57 3,⟨.mv (.tmp 2),some 58,some (57,false),7⟩,⟨.bin .neq (.tmp 58) (ci' 0),some 59,some (57,false),15⟩,o3 (.pick (.tmp 57) (.const (.bool true)) (.tmp 59)) 60 31,cl' 256 [60] 61 63,mv' 61 6 127]
def ybpp:LO:=[mv' 0 62 0,mv' 1 63 0,mv' 2 64 0,cl' 260 [62,63,64] 65 7,cl' 256 [65] 66 15,mv' 66 6 31]
def c239:SC:=(.seq (.reg false ycup) (.seq (.seq (.reg false ycrs) (.block 0 (.seq (.reg false ycgx) (.cond (.tmp 8) (.seq (.reg false ycuc) .ret) (.seq (.reg false ycsy) (.cond (.tmp 14) (.seq (.reg false ycly) .ret) (.seq (.reg false ychl) (.cond (.tmp 20) (.seq (.seq (.reg false ycqy) (.cond (.tmp 23) (.seq (.reg false ycoz) .ret) .skip)) (.seq (.reg false ycmq) .ret)) (.seq (.reg false ybxz) (.cond (.tmp 32) (.seq (.reg false ybod) .ret) (.seq (.reg false ybyd) (.cond (.tmp 38) (.seq (.reg false ybsa) .ret) (.seq (.reg false ybop) (.cond (.tmp 44) (.seq (.reg false ybru) .ret) (.seq (.reg false ybzx) (.cond (.tmp 53) (.seq (.reg false ybqr) .ret) .skip)))))))))))))))) (.seq (.reg false ybpp) .ret)))
theorem yddf:Fn 239 c239 [.t 6]:=fn_0 Tryz.func239 (by kernel_rfl) (by kernel_rfl)
def ycfz:LO:=[o3 (.mv (ci' 0)) 4 0]
def ycrm:LO:=[mv' 1 6 0,o3 (.bin .eql (.tmp 6) (ci' 0)) 7 1]
def yckr:LO:=[o3 (.mv (ci' 0)) 4 0]
def ycii:LO:=[mv' 0 8 0,mv' 1 9 0,bn' .quo 8 9 10 3,mv' 10 5 7]
def ycpm:LO:=[mv' 0 11 0,mv' 1 12 0,bn' .rem 11 12 13 3,o3 (.bin .neq (.tmp 13) (ci' 0)) 14 7,mv' 14 15 15,⟨.mv (.tmp 0),some 16,some (15,true),31⟩,⟨.bin .lss (.tmp 16) (ci' 0),some 17,some (15,true),63⟩,⟨.mv (.tmp 1),some 18,some (15,true),31⟩,⟨.bin .lss (.tmp 18) (ci' 0),some 19,some (15,true),159⟩,⟨.beq true (.tmp 17) (.tmp 19),some 20,some (15,true),511⟩,o3 (.pick (.tmp 15) (.tmp 20) (.const (.bool false))) 21 1023]
def ycjo:LO:=[mv' 5 22 0,o3 (.bin .sub (.tmp 22) (ci' 1)) 23 1,mv' 23 5 3]
def ycix:LO:=[mv' 5 24 0,mv' 24 4 1]
def c259:SC:=(.seq (.reg false ycfz) (.seq (.seq (.reg false ycrm) (.cond (.tmp 7) (.seq (.reg false yckr) .ret) .skip)) (.seq (.reg false ycii) (.seq (.seq (.reg false ycpm) (.cond (.tmp 21) (.reg false ycjo) .skip)) (.seq (.reg false ycix) .ret)))))
theorem ydcz:Fn 259 c259 [.t 4]:=fn_0 Tryz.func259 (by kernel_rfl) (by kernel_rfl)
def yclu:LO:=[o3 (.mv (.const (.bool false))) 6 0]
def ycke:LO:=[mv' 0 7 0]
def ycmg:LO:=[o3 (.bin .eql (.tmp 7) (ci' 35)) 9 0,mv' 9 8 1]
def ycul:LO:=[mv' 1 10 0,mv' 2 11 0,bn' .eql 10 11 12 3,mv' 12 6 7]
def ycpv:LO:=[o3 (.bin .eql (.tmp 7) (ci' 36)) 14 0,mv' 14 13 1]
def ycpi:LO:=[mv' 1 15 0,mv' 2 16 0,bn' .neq 15 16 17 3,mv' 17 6 7]
def ycps:LO:=[o3 (.bin .eql (.tmp 7) (ci' 37)) 19 0,mv' 19 18 1]
def ycjw:LO:=[mv' 1 20 0,mv' 2 21 0,bn' .lss 20 21 22 3,mv' 22 6 7]
def ycns:LO:=[o3 (.bin .eql (.tmp 7) (ci' 38)) 24 0,mv' 24 23 1]
def ycna:LO:=[mv' 1 25 0,mv' 2 26 0,bn' .leq 25 26 27 3,mv' 27 6 7]
def ybwt:LO:=[o3 (.bin .eql (.tmp 7) (ci' 39)) 29 0,mv' 29 28 1]
def ybvv:LO:=[mv' 1 30 0,mv' 2 31 0,bn' .gtr 30 31 32 3,mv' 32 6 7]
def yboa:LO:=[mv' 1 33 0,mv' 2 34 0,bn' .geq 33 34 35 3,mv' 35 6 7]
def c260:SC:=(.seq (.reg false yclu) (.seq (.seq (.reg false ycke) (.block 0 (.seq (.reg false ycmg) (.cond (.tmp 8) (.seq (.reg false ycul) .ret) (.seq (.reg false ycpv) (.cond (.tmp 13) (.seq (.reg false ycpi) .ret) (.seq (.reg false ycps) (.cond (.tmp 18) (.seq (.reg false ycjw) .ret) (.seq (.reg false ycns) (.cond (.tmp 23) (.seq (.reg false ycna) .ret) (.seq (.reg false ybwt) (.cond (.tmp 28) (.seq (.reg false ybvv) .ret) .skip)))))))))))) (.seq (.reg false yboa) .ret)))
theorem yddl:Fn 260 c260 [.t 6]:=fn_0 Tryz.func260 (by kernel_rfl) (by kernel_rfl)
def ycvf:LO:=[o3 (.mv (ci' 0)) 4 0]
def ychv:LO:=[mv' 0 15 0]
def ycio:LO:=[o3 (.bin .eql (.tmp 15) (ci' 20)) 17 0,mv' 17 16 1]
def yclq:LO:=[mv' 1 18 0,cl' 266 [18] 19 1,mv' 1 20 0,ln' 20 21 4,bn' .eql 19 21 22 15,cl' 256 [22] 23 31,mv' 23 4 63]
def ychu:LO:=[o3 (.bin .eql (.tmp 15) (ci' 21)) 25 0,mv' 25 24 1]
def ycqo:LO:=[mv' 1 26 0,cl' 266 [26] 27 1,o3 (.bin .gtr (.tmp 27) (ci' 0)) 28 3,cl' 256 [28] 29 7,mv' 29 4 15]
def ycms:LO:=[o3 (.bin .eql (.tmp 15) (ci' 22)) 31 0,mv' 31 30 1]
def ycrg:LO:=[mv' 1 32 0,cl' 266 [32] 33 1,mv' 33 4 3]
def ycrx:LO:=[o3 (.bin .eql (.tmp 15) (ci' 23)) 35 0,mv' 35 34 1]
def ycnp:LO:=[mv' 1 36 0,o3 (.call (.func 267) [(.tmp 36),(.func 268)]) 37 1,mv' 37 4 3]
def ybrb:LO:=[o3 (.bin .eql (.tmp 15) (ci' 24)) 39 0,mv' 39 38 1]
def ybsm:LO:=[o3 (.mv (ci' 1073741824)) 5 0]
def ybtt:LO:=[mv' 1 40 0,ln' 40 41 1,o3 (.mv (ci' 0)) 42 0]
def ybpk:LO:=[bn' .lss 42 41 43 0]
def ybzf:LO:=[ix' 1 40 42 44 0,ld' false 1 44 45 1,mv' 45 7 3]
def ybsp:LO:=[mv' 5 46 0,mv' 7 47 0,o3 (.mm false (.tmp 46) (.tmp 47)) 48 3,mv' 48 5 7]
def ybzi:LO:=[o3 (.bin .add (.tmp 42) (ci' 1)) 49 0,mv' 49 42 1]
def ybyw:LO:=[mv' 5 50 0,mv' 50 4 1]
def ybzq:LO:=[o3 (.bin .eql (.tmp 15) (ci' 25)) 52 0,mv' 52 51 1]
def ybwd:LO:=[mv' 1 54 0,cl' 269 [54] 55 1,mv' 55 53 3,xt' 53 0 56 7,xt' 53 1 57 7,mv' 56 8 15,mv' 57 9 63]
def ybxn:LO:=[mv' 8 58 0,mv' 58 4 1]
def ybnk:LO:=[o3 (.bin .eql (.tmp 15) (ci' 26)) 60 0,mv' 60 59 1]
def ybpx:LO:=[o3 (.mv (ci' 0)) 10 0]
def ybwc:LO:=[mv' 1 61 0,ln' 61 62 1,o3 (.mv (ci' 0)) 63 0]
def ybuh:LO:=[bn' .lss 63 62 64 0]
def ybpf:LO:=[ix' 1 61 63 65 0,ld' false 1 65 66 1,mv' 66 12 3]
def ybyv:LO:=[mv' 10 67 0,mv' 12 68 0,bn' .add 67 68 69 3,mv' 69 10 7]
def ybzm:LO:=[o3 (.bin .add (.tmp 63) (ci' 1)) 70 0,mv' 70 63 1]
def ybvt:LO:=[mv' 10 71 0,cl' 258 [71] 72 1,mv' 72 4 3]
def ybyq:LO:=[o3 (.bin .eql (.tmp 15) (ci' 27)) 74 0,mv' 74 73 1]
def ybpi:LO:=[mv' 1 75 0,cl' 270 [75] 76 1,mv' 76 4 3]
def ybvp:LO:=[o3 (.bin .eql (.tmp 15) (ci' 28)) 78 0,mv' 78 77 1]
def ybul:LO:=[mv' 1 80 0,cl' 269 [80] 81 1,mv' 81 79 3,xt' 79 0 82 7,xt' 79 1 83 7,mv' 82 13 15,mv' 83 14 63]
def ybzv:LO:=[mv' 14 84 0,mv' 84 4 1]
def ybnt:LO:=[mv' 1 85 0,ln' 85 86 1,o3 (.bin .eql (.tmp 86) (ci' 0)) 87 3]
def ybrw:LO:=[o3 (.mv (ci' 0)) 4 0]
def ybxi:LO:=[mv' 1 88 0,o3 (.idx 1 (.tmp 88) (ci' 0)) 89 1,ld' false 1 89 90 3,mv' 90 4 7]
def c257:SC:=(.seq (.reg false ycvf) (.seq (.seq (.reg false ychv) (.block 0 (.seq (.reg false ycio) (.cond (.tmp 16) (.seq (.reg false yclq) .ret) (.seq (.reg false ychu) (.cond (.tmp 24) (.seq (.reg false ycqo) .ret) (.seq (.reg false ycms) (.cond (.tmp 30) (.seq (.reg false ycrg) .ret) (.seq (.reg false ycrx) (.cond (.tmp 34) (.seq (.reg false ycnp) .ret) (.seq (.reg false ybrb) (.cond (.tmp 38) (.seq (.reg false ybsm) (.seq (.seq (.reg false ybtt) (.block 1 (.loop (.seq (.reg false ybpk) (.seq (.cond (.tmp 43) .skip (.exit 1)) (.seq (.block 2 (.seq (.reg false ybzf) (.reg false ybsp))) (.reg false ybzi))))))) (.seq (.reg false ybyw) .ret))) (.seq (.reg false ybzq) (.cond (.tmp 51) (.seq (.reg false ybwd) (.seq (.reg false ybxn) .ret)) (.seq (.reg false ybnk) (.cond (.tmp 59) (.seq (.reg false ybpx) (.seq (.seq (.reg false ybwc) (.block 3 (.loop (.seq (.reg false ybuh) (.seq (.cond (.tmp 64) .skip (.exit 3)) (.seq (.block 4 (.seq (.reg false ybpf) (.reg false ybyv))) (.reg false ybzm))))))) (.seq (.reg false ybvt) .ret))) (.seq (.reg false ybyq) (.cond (.tmp 73) (.seq (.reg false ybpi) .ret) (.seq (.reg false ybvp) (.cond (.tmp 77) (.seq (.reg false ybul) (.seq (.reg false ybzv) .ret)) .skip)))))))))))))))))))) (.seq (.seq (.reg false ybnt) (.cond (.tmp 87) (.seq (.reg false ybrw) .ret) .skip)) (.seq (.reg false ybxi) .ret))))
theorem yczz:Fn 257 c257 [.t 4]:=fn_0 Tryz.func257 (by kernel_rfl) (by kernel_rfl)
def ycjc:LO:=[o3 (.mv (.const (.bool false))) 2 0]
def ycmn:LO:=[mv' 0 3 0,o3 (.bin .neq (.tmp 3) (ci' 0)) 4 1,mv' 4 2 3]
def c268:SC:=(.seq (.reg false ycjc) (.seq (.reg false ycmn) .ret))
theorem yczv:Fn 268 c268 [.t 2]:=fn_0 Tryz.func268 (by kernel_rfl) (by kernel_rfl)
def yckj:LO:=[o3 (.mv (ci' 0)) 2 0]
def ycxi:LO:=[o3 (.mv (ci' 0)) 3 0]
def ycrh:LO:=[mv' 0 6 0,ln' 6 7 1,o3 (.mv (ci' 0)) 8 0]
def ycwr:LO:=[bn' .lss 8 7 9 0]
def ycvd:LO:=[ix' 1 6 8 10 0,ld' false 1 10 11 1,mv' 11 5 3]
def ycpt:LO:=[mv' 5 12 0,o3 (.bin .neq (.tmp 12) (ci' 0)) 13 1]
def ycut:LO:=[mv' 3 14 0,o3 (.bin .add (.tmp 14) (ci' 1)) 15 1,mv' 15 3 3]
def ycvc:LO:=[o3 (.bin .add (.tmp 8) (ci' 1)) 16 0,mv' 16 8 1]
def ychb:LO:=[mv' 3 17 0,mv' 17 2 1]
def c266:SC:=(.seq (.reg false yckj) (.seq (.reg false ycxi) (.seq (.seq (.reg false ycrh) (.block 0 (.loop (.seq (.reg false ycwr) (.seq (.cond (.tmp 9) .skip (.exit 0)) (.seq (.block 1 (.seq (.reg false ycvd) (.seq (.reg false ycpt) (.cond (.tmp 13) (.reg false ycut) .skip)))) (.reg false ycvc))))))) (.seq (.reg false ychb) .ret))))
theorem ydai:Fn 266 c266 [.t 2]:=fn_0 Tryz.func266 (by kernel_rfl) (by kernel_rfl)
def ycgg:LO:=[o3 (.mv (ci' 0)) 2 0,o3 (.mv (ci' 0)) 3 1]
def ycro:LO:=[o3 (.mv (.const (.int .i64 (-1073741824)))) 2 0,o3 (.mv (.const (.int .i64 (-1073741824)))) 3 1]
def yciz:LO:=[mv' 0 6 0,ln' 6 7 1,o3 (.mv (ci' 0)) 8 0]
def ycqu:LO:=[bn' .lss 8 7 9 0]
def ychc:LO:=[ix' 1 6 8 10 0,ld' false 1 10 11 1,mv' 11 5 3]
def ycjm:LO:=[mv' 5 12 0,mv' 2 13 0,bn' .gtr 12 13 14 3]
def ycwg:LO:=[mv' 5 15 0,mv' 2 16 0,mv' 15 2 3,mv' 16 3 7]
def ycun:LO:=[mv' 3 17 0,mv' 5 18 0,o3 (.mm true (.tmp 17) (.tmp 18)) 19 3,mv' 19 3 7]
def ychg:LO:=[o3 (.bin .add (.tmp 8) (ci' 1)) 20 0,mv' 20 8 1]
def ycsq:LO:=[mv' 2 21 0,mv' 3 22 0,mv' 21 2 1,mv' 22 3 7]
def c269:SC:=(.seq (.reg false ycgg) (.seq (.reg false ycro) (.seq (.seq (.reg false yciz) (.block 0 (.loop (.seq (.reg false ycqu) (.seq (.cond (.tmp 9) .skip (.exit 0)) (.seq (.block 1 (.seq (.reg false ychc) (.seq (.reg false ycjm) (.cond (.tmp 14) (.reg false ycwg) (.reg false ycun))))) (.reg false ychg))))))) (.seq (.reg false ycsq) .ret))))
theorem ydeb:Fn 269 c269 [.t 2,.t 3]:=fn_0 Tryz.func269 (by kernel_rfl) (by kernel_rfl)
def ycrb:LO:=[o3 (.mv (ci' 0)) 2 0]
def ycvb:LO:=[o3 (.mv (ci' 0)) 3 0]
def yctl:LO:=[mv' 0 4 0,mv' 3 5 0,cl' 274 [4,5] 6 3]
def yctg:LO:=[mv' 3 7 0,o3 (.bin .add (.tmp 7) (ci' 1)) 8 1,mv' 8 3 3]
def ycvp:LO:=[mv' 3 9 0,mv' 9 2 1]
def c270:SC:=(.seq (.reg false ycrb) (.seq (.reg false ycvb) (.seq (.block 0 (.loop (.seq (.seq (.reg false yctl) (.cond (.tmp 6) .skip (.exit 0))) (.block 1 (.reg false yctg))))) (.seq (.reg false ycvp) .ret))))
theorem ydbw:Fn 270 c270 [.t 2]:=fn_0 Tryz.func270 (by kernel_rfl) (by kernel_rfl)
def yctd:LO:=[o3 (.box 58 (.tmp 0)) 2 0,o3 (.box 27 (.tmp 1)) 3 0,o3 (.mv (.const (.pointer none))) 4 0]
def yche:LO:=[ld' true 3 2 10 0,ld' true 2 3 11 0,fa' 1 1 3 12 0,ld' false 1 12 13 4,ln' 13 14 12,o3 (.mk 22 1 24 [.a (.slice none 0 0)] (.tmp 14) (.tmp 14)) 15 28,o3 (.build [.a (.string (ByteArray.mk #[])),.a (.slice none 0 0),.a (.slice none 0 0),.a (.slice none 0 0),.a (.slice none 0 0),.i .i64 0,.a (.slice none 0 0)] [(0,3,(.tmp 10)),(3,2,(.tmp 11)),(6,1,(.tmp 15))]) 16 63,o3 (.box 170 (.tmp 16)) 17 127,mv' 17 5 255]
def yclz:LO:=[fa' 1 1 3 18 0,ld' false 1 18 19 1,ln' 19 20 3,o3 (.mv (ci' 0)) 21 0]
def ycln:LO:=[bn' .lss 21 20 22 0]
def ycqx:LO:=[mv' 21 23 0,ix' 1 19 21 24 0,ld' false 1 24 25 2,mv' 23 6 7,mv' 25 7 15]
def ycog:LO:=[mv' 5 26 0,mv' 5 27 0,o3 (.nilck (.tmp 27)) 28 2,fa' 5 1 28 29 6,ld' false 1 29 30 14,fa' 0 1 3 31 0,ld' false 1 31 32 32,mv' 6 33 0,ix' 1 32 33 34 224,ld' false 1 34 35 480,o3 (.mm true (.tmp 30) (.tmp 35)) 36 1022,o3 (.nilck (.tmp 26)) 37 2047,fa' 5 1 37 38 4095,o0 (.store 1 (.tmp 38) (.tmp 36)) 8191]
def yclj:LO:=[mv' 7 39 0,ln' 39 40 1,o3 (.mv (ci' 0)) 41 0]
def ycqi:LO:=[bn' .lss 41 40 42 0]
def ycsn:LO:=[ix' 2 39 41 43 0,ld' true 2 43 44 1,o3 (.alloc 95 1 [.i .i64 0,.i .i64 0]) 9 0,o0 (.store 2 (.tmp 9) (.tmp 44)) 7]
def ycie:LO:=[mv' 5 45 0,o3 (.nilck (.tmp 45)) 46 1,fa' 6 1 46 47 3,ld' false 1 47 48 7,mv' 6 49 0,mv' 5 50 0,o3 (.nilck (.tmp 50)) 51 32,fa' 6 1 51 52 96,ld' false 1 52 53 224,mv' 6 54 0,ix' 1 53 54 55 992,ld' false 1 55 56 2016,ld' true 2 3 57 0,fa' 0 1 9 58 0,ld' false 1 58 59 8192,mv' 6 60 0,cl' 170 [57,59,60] 61 61440,o3 (.bslice 3 1 1 [.i .i64 0] [(0,1,(.tmp 61))]) 62 126976,o3 (.app 3 1 8 (.tmp 56) (.tmp 62)) 63 262112,ix' 1 48 49 64 524287,o0 (.store 1 (.tmp 64) (.tmp 63)) 1048575]
def ybqf:LO:=[o3 (.bin .add (.tmp 41) (ci' 1)) 65 0,mv' 65 41 1]
def ybvr:LO:=[o3 (.bin .add (.tmp 21) (ci' 1)) 66 0,mv' 66 21 1]
def ybup:LO:=[mv' 5 67 0,mv' 67 4 1]
def c143:SC:=(.seq (.reg false yctd) (.seq (.reg true yche) (.seq (.seq (.reg false yclz) (.block 0 (.loop (.seq (.reg false ycln) (.seq (.cond (.tmp 22) .skip (.exit 0)) (.seq (.block 1 (.seq (.reg false ycqx) (.seq (.reg true ycog) (.seq (.reg false yclj) (.block 2 (.loop (.seq (.reg false ycqi) (.seq (.cond (.tmp 42) .skip (.exit 2)) (.seq (.block 3 (.seq (.reg false ycsn) (.reg true ycie))) (.reg false ybqf)))))))))) (.reg false ybvr))))))) (.seq (.reg false ybup) .ret))))
theorem ycym:Fn 143 c143 [.t 4]:=fn_0 Tryz.func143 (by kernel_rfl) (by kernel_rfl)
def ycsb:LO:=[o3 (.mv (ci' 0)) 8 0]
def ycsa:LO:=[mv' 1 10 0]
def yckd:LO:=[o3 (.bin .eql (.tmp 10) (ci' 6)) 12 0,mv' 12 11 1]
def ycgd:LO:=[mv' 0 13 0,o3 (.nilck (.tmp 13)) 14 1,fa' 3 2 14 15 3,fa' 0 1 15 16 7,ld' false 1 16 17 15,ln' 17 18 31,mv' 18 8 63]
def ycgm:LO:=[o3 (.bin .eql (.tmp 10) (ci' 7)) 20 0,mv' 20 19 1]
def ycku:LO:=[mv' 0 21 0,o3 (.nilck (.tmp 21)) 22 1,fa' 5 1 22 23 3,ld' false 1 23 24 7,mv' 24 8 15]
def ycju:LO:=[o3 (.bin .eql (.tmp 10) (ci' 8)) 26 0,mv' 26 25 1]
def ycmm:LO:=[mv' 0 27 0,o3 (.nilck (.tmp 27)) 28 1,fa' 3 2 28 29 3,fa' 0 1 29 30 7,ld' false 1 30 31 15,mv' 2 32 0,ix' 1 31 32 33 63,ld' false 1 33 34 127,mv' 34 8 255]
def yciw:LO:=[o3 (.bin .eql (.tmp 10) (ci' 9)) 36 0,mv' 36 35 1]
def ycpx:LO:=[mv' 0 37 0,o3 (.nilck (.tmp 37)) 38 1,fa' 3 2 38 39 3,fa' 1 1 39 40 7,ld' false 1 40 41 15,mv' 2 42 0,ix' 1 41 42 43 63,ld' false 1 43 44 127,ln' 44 45 255,mv' 45 8 511]
def ybog:LO:=[o3 (.bin .eql (.tmp 10) (ci' 10)) 47 0,mv' 47 46 1]
def ybqz:LO:=[mv' 2 48 0,o3 (.bin .eql (.tmp 48) (ci' 0)) 49 1,cl' 256 [49] 50 3,mv' 50 8 7]
def ybva:LO:=[o3 (.bin .eql (.tmp 10) (ci' 11)) 52 0,mv' 52 51 1]
def ybti:LO:=[mv' 3 53 0,mv' 53 8 1]
def ybxs:LO:=[mv' 0 54 0,o3 (.nilck (.tmp 54)) 55 1,fa' 3 2 55 56 3,fa' 1 1 56 57 7,ld' false 1 57 58 15,mv' 2 59 0,ix' 1 58 59 60 63,ld' false 1 60 61 127,mv' 3 62 0,ix' 2 61 62 63 511,ld' true 2 63 64 1023,o3 (.alloc 95 1 [.i .i64 0,.i .i64 0]) 9 0,o0 (.store 2 (.tmp 9) (.tmp 64)) 4095]
def ybrr:LO:=[mv' 1 65 0]
def ybth:LO:=[o3 (.bin .eql (.tmp 65) (ci' 13)) 67 0,mv' 67 66 1]
def ybyf:LO:=[mv' 0 68 0,o3 (.nilck (.tmp 68)) 69 1,fa' 3 2 69 70 3,fa' 0 1 70 71 7,ld' false 1 71 72 15,fa' 0 1 9 73 0,ld' false 1 73 74 32,ix' 1 72 74 75 127,ld' false 1 75 76 255,mv' 76 8 511]
def ybsy:LO:=[o3 (.bin .eql (.tmp 65) (ci' 14)) 78 0,mv' 78 77 1]
def ybwm:LO:=[mv' 0 79 0,o3 (.nilck (.tmp 79)) 80 1,fa' 3 2 80 81 3,fa' 1 1 81 82 7,ld' false 1 82 83 15,fa' 0 1 9 84 0,ld' false 1 84 85 32,ix' 1 83 85 86 127,ld' false 1 86 87 255,ln' 87 88 511,mv' 88 8 1023]
def yboj:LO:=[o3 (.bin .eql (.tmp 65) (ci' 15)) 90 0,mv' 90 89 1]
def ybsv:LO:=[fa' 0 1 9 91 0,ld' false 1 91 92 1,o3 (.bin .eql (.tmp 92) (ci' 0)) 93 3,cl' 256 [93] 94 7,mv' 94 8 15]
def ybtc:LO:=[o3 (.bin .eql (.tmp 65) (ci' 16)) 96 0,mv' 96 95 1]
def ybud:LO:=[fa' 1 1 9 97 0,ld' false 1 97 98 1,mv' 98 8 3]
def ybug:LO:=[mv' 0 99 0,o3 (.nilck (.tmp 99)) 100 1,fa' 6 1 100 101 3,ld' false 1 101 102 7,mv' 2 103 0,ix' 1 102 103 104 31,ld' false 1 104 105 63,mv' 3 106 0,ix' 1 105 106 107 255,ld' false 1 107 108 511,mv' 108 8 1023]
def c255:SC:=(.seq (.reg false ycsb) (.seq (.seq (.reg false ycsa) (.block 0 (.seq (.reg false yckd) (.cond (.tmp 11) (.seq (.reg false ycgd) .ret) (.seq (.reg false ycgm) (.cond (.tmp 19) (.seq (.reg false ycku) .ret) (.seq (.reg false ycju) (.cond (.tmp 25) (.seq (.reg false ycmm) .ret) (.seq (.reg false yciw) (.cond (.tmp 35) (.seq (.reg false ycpx) .ret) (.seq (.reg false ybog) (.cond (.tmp 46) (.seq (.reg false ybqz) .ret) (.seq (.reg false ybva) (.cond (.tmp 51) (.seq (.reg false ybti) .ret) .skip)))))))))))))) (.seq (.reg false ybxs) (.seq (.seq (.reg false ybrr) (.block 1 (.seq (.reg false ybth) (.cond (.tmp 66) (.seq (.reg true ybyf) .ret) (.seq (.reg false ybsy) (.cond (.tmp 77) (.seq (.reg true ybwm) .ret) (.seq (.reg false yboj) (.cond (.tmp 89) (.seq (.reg false ybsv) .ret) (.seq (.reg false ybtc) (.cond (.tmp 95) (.seq (.reg false ybud) .ret) .skip)))))))))) (.seq (.reg false ybug) .ret)))))
theorem ycyc:Fn 255 c255 [.t 8]:=fn_0 Tryz.func255 (by kernel_rfl) (by kernel_rfl)
def yctf:LO:=[o3 (.mv (ci' 0)) 8 0]
def ycvk:LO:=[mv' 0 12 0,mv' 1 13 0,mv' 2 14 0,mv' 3 15 0,o3 (.build [.a (.pointer none),.a (.slice none 0 0),.i .i64 0,.a (.slice none 0 0)] [(0,1,(.tmp 12)),(1,1,(.tmp 13)),(2,1,(.tmp 14)),(3,1,(.tmp 15))]) 16 15,o3 (.alloc 228 1 [.a (.pointer none),.a (.slice none 0 0),.i .i64 0,.a (.slice none 0 0)]) 9 0,o0 (.store 4 (.tmp 9) (.tmp 16)) 63]
def ycmv:LO:=[o3 (.call (.func 220) [(.tmp 9),(ci' 0),(.const (.int .i64 (-1)))]) 18 0,mv' 18 17 1,xt' 17 0 19 3,xt' 17 1 20 3,mv' 19 10 7,mv' 20 11 31]
def ychz:LO:=[mv' 10 21 0,mv' 21 8 1]
def c193:SC:=(.seq (.reg false yctf) (.seq (.reg false ycvk) (.seq (.reg false ycmv) (.seq (.reg false ychz) .ret))))
theorem yddv:Fn 193 c193 [.t 8]:=fn_0 Tryz.func193 (by kernel_rfl) (by kernel_rfl)
def ycil:LO:=[o3 (.mv (.const (.bool false))) 8 0]
def ycgs:LO:=[mv' 0 9 0,mv' 1 10 0,mv' 2 11 0,mv' 0 12 0,o3 (.nilck (.tmp 12)) 13 8,fa' 0 3 13 14 24,fa' 2 1 14 15 56,ld' false 1 15 16 120,mv' 3 17 0,ix' 3 16 17 18 504,fa' 1 1 18 19 1016,ld' false 1 19 20 2040,cl' 193 [9,10,11,20] 21 4095,o3 (.bin .neq (.tmp 21) (ci' 0)) 22 8191,mv' 22 8 16383]
def c172:SC:=(.seq (.reg false ycil) (.seq (.reg false ycgs) .ret))
theorem yczf:Fn 172 c172 [.t 8]:=fn_0 Tryz.func172 (by kernel_rfl) (by kernel_rfl)
def yuj:LO:=[o3 (.mv (ci' 0)) 6 0,o3 (.mv (ci' 0)) 7 1]
def yus:LO:=[mv' 0 18 0,o3 (.nilck (.tmp 18)) 19 1,fa' 3 1 19 20 3,ld' false 1 20 21 7,mv' 1 22 0,ix' 2 21 22 23 31,ld' true 2 23 24 63,o3 (.alloc 240 1 [.i .i64 0,.i .i64 0]) 8 0,o0 (.store 2 (.tmp 8) (.tmp 24)) 255]
def yum:LO:=[fa' 0 1 8 26 0,ld' false 1 26 27 1,o3 (.bin .leq (.tmp 27) (ci' 17)) 28 3,mv' 28 25 7]
def yuw:LO:=[mv' 0 29 0,ld' true 2 8 30 0,mv' 2 31 0,cl' 236 [29,30,31] 32 7,mv' 1 33 0,o3 (.bin .add (.tmp 33) (ci' 1)) 34 16,mv' 32 6 15,mv' 34 7 127]
def yuo:LO:=[fa' 0 1 8 36 0,ld' false 1 36 37 1,o3 (.bin .leq (.tmp 37) (ci' 19)) 38 3,mv' 38 35 7]
def yvo:LO:=[mv' 0 40 0,mv' 1 41 0,o3 (.bin .add (.tmp 41) (ci' 1)) 42 2,mv' 2 43 0,cl' 220 [40,42,43] 44 15,mv' 44 39 31,xt' 39 0 45 63,xt' 39 1 46 63,mv' 45 6 127,mv' 46 7 511]
def yve:LO:=[fa' 0 1 8 47 0,ld' false 1 47 48 1,mv' 6 49 0,cl' 237 [48,49] 50 7,mv' 7 51 0,mv' 50 6 15,mv' 51 7 63]
def yvi:LO:=[fa' 0 1 8 53 0,ld' false 1 53 54 1,o3 (.bin .leq (.tmp 54) (ci' 29)) 55 3,mv' 55 52 7]
def yuv:LO:=[mv' 0 56 0,fa' 0 1 8 57 0,ld' false 1 57 58 2,mv' 1 59 0,cl' 238 [56,58,59] 60 15,xt' 60 0 61 31,xt' 60 1 62 31,mv' 61 6 127,mv' 62 7 255]
def yun:LO:=[fa' 0 1 8 64 0,ld' false 1 64 65 1,o3 (.bin .leq (.tmp 65) (ci' 42)) 66 3,mv' 66 63 7]
def yoh:LO:=[mv' 0 68 0,mv' 1 69 0,o3 (.bin .add (.tmp 69) (ci' 1)) 70 2,mv' 2 71 0,cl' 220 [68,70,71] 72 15,mv' 72 67 31,xt' 67 0 73 63,xt' 67 1 74 63,mv' 73 9 127,mv' 74 10 511]
def yoo:LO:=[mv' 0 76 0,mv' 10 77 0,mv' 2 78 0,cl' 220 [76,77,78] 79 7,mv' 79 75 15,xt' 75 0 80 31,xt' 75 1 81 31,mv' 80 11 63,mv' 81 12 255]
def yns:LO:=[fa' 0 1 8 82 0,ld' false 1 82 83 1,mv' 9 84 0,mv' 11 85 0,cl' 239 [83,84,85] 86 15,mv' 12 87 0,mv' 86 6 31,mv' 87 7 127]
def ynv:LO:=[mv' 0 89 0,mv' 1 90 0,o3 (.bin .add (.tmp 90) (ci' 1)) 91 2,mv' 2 92 0,cl' 220 [89,91,92] 93 15,mv' 93 88 31,xt' 88 0 94 63,xt' 88 1 95 63,mv' 94 13 127,mv' 95 14 511]
def yox:LO:=[mv' 0 97 0,mv' 14 98 0,mv' 2 99 0,cl' 220 [97,98,99] 100 7,mv' 100 96 15,xt' 96 0 101 31,xt' 96 1 102 31,mv' 101 15 63,mv' 102 16 255]
def yon:LO:=[mv' 0 104 0,mv' 16 105 0,mv' 2 106 0,cl' 220 [104,105,106] 107 7,mv' 107 103 15,xt' 103 0 108 31,xt' 103 1 109 31,mv' 108 17 63,mv' 109 7 255]
def ynj:LO:=[mv' 13 110 0,o3 (.bin .neq (.tmp 110) (ci' 0)) 111 1]
def ynx:LO:=[mv' 15 112 0,mv' 7 113 0,mv' 112 6 1,mv' 113 7 7]
def yoq:LO:=[mv' 17 114 0,mv' 7 115 0,mv' 114 6 1,mv' 115 7 7]
def c220:SC:=(.seq (.reg false yuj) (.seq (.reg false yus) (.seq (.block 0 (.seq (.reg false yum) (.cond (.tmp 25) (.seq (.reg false yuw) .ret) (.seq (.reg false yuo) (.cond (.tmp 35) (.seq (.reg false yvo) (.seq (.reg false yve) .ret)) (.seq (.reg false yvi) (.cond (.tmp 52) (.seq (.reg false yuv) .ret) (.seq (.reg false yun) (.cond (.tmp 63) (.seq (.reg false yoh) (.seq (.reg false yoo) (.seq (.reg false yns) .ret))) .skip))))))))) (.seq (.reg false ynv) (.seq (.reg false yox) (.seq (.reg false yon) (.seq (.seq (.reg false ynj) (.cond (.tmp 111) (.seq (.reg false ynx) .ret) .skip)) (.seq (.reg false yoq) .ret))))))))
theorem yrv:Fn 220 c220 [.t 6,.t 7]:=fn_0 Tryz.func220 (by kernel_rfl) (by kernel_rfl)
def yctn:LO:=[o3 (.box 240 (.tmp 1)) 4 0,o3 (.mv (ci' 0)) 6 0]
def ycja:LO:=[fa' 0 1 4 7 0,ld' false 1 7 8 1]
def ycgl:LO:=[o3 (.bin .eql (.tmp 8) (ci' 1)) 10 0,mv' 10 9 1]
def ycld:LO:=[fa' 1 1 4 11 0,ld' false 1 11 12 1,mv' 12 6 3]
def ycme:LO:=[o3 (.bin .eql (.tmp 8) (ci' 2)) 14 0,mv' 14 13 1]
def ycre:LO:=[o3 (.mv (ci' 1)) 6 0]
def ycpg:LO:=[o3 (.bin .eql (.tmp 8) (ci' 3)) 16 0,mv' 16 15 1]
def yckn:LO:=[o3 (.mv (ci' 0)) 6 0]
def ycpq:LO:=[o3 (.bin .eql (.tmp 8) (ci' 4)) 18 0,mv' 18 17 1]
def ycwd:LO:=[o3 (.mv (.const (.int .i64 (-1)))) 6 0]
def ybre:LO:=[o3 (.bin .eql (.tmp 8) (ci' 5)) 20 0,mv' 20 19 1]
def ybnj:LO:=[mv' 0 21 0,o3 (.nilck (.tmp 21)) 22 1,fa' 1 1 22 23 3,ld' false 1 23 24 7,mv' 0 25 0,o3 (.nilck (.tmp 25)) 26 16,fa' 2 1 26 27 48,ld' false 1 27 28 112,ix' 1 24 28 29 255,ld' false 1 29 30 511,fa' 1 1 4 31 0,ld' false 1 31 32 1024,ix' 1 30 32 33 4095,ld' false 1 33 34 8191,mv' 34 6 16383]
def ybwn:LO:=[o3 (.bin .eql (.tmp 8) (ci' 12)) 36 0,mv' 36 35 1]
def ybsc:LO:=[mv' 0 37 0,o3 (.nilck (.tmp 37)) 38 1,fa' 1 1 38 39 3,ld' false 1 39 40 7,mv' 0 41 0,o3 (.nilck (.tmp 41)) 42 16,fa' 0 1 42 43 48,ld' false 1 43 44 112,o3 (.nilck (.tmp 44)) 45 240,fa' 3 2 45 46 496,fa' 1 1 46 47 1008,ld' false 1 47 48 2032,mv' 0 49 0,o3 (.nilck (.tmp 49)) 50 4096,fa' 2 1 50 51 12288,ld' false 1 51 52 28672,ix' 1 48 52 53 65520,ld' false 1 53 54 131056,mv' 2 55 0,ix' 2 54 55 56 524272,fa' 0 1 56 57 1048560,ld' false 1 57 58 2097136,ix' 1 40 58 59 4194303,ld' false 1 59 60 8388607,fa' 1 1 4 61 0,ld' false 1 61 62 16777216,ix' 1 60 62 63 67108863,ld' false 1 63 64 134217727,mv' 64 6 268435455]
def ybpu:LO:=[mv' 0 65 0,o3 (.nilck (.tmp 65)) 66 1,fa' 0 1 66 67 3,ld' false 1 67 68 7,fa' 0 1 4 69 0,ld' false 1 69 70 16,mv' 0 71 0,o3 (.nilck (.tmp 71)) 72 64,fa' 2 1 72 73 192,ld' false 1 73 74 448,mv' 2 75 0,cl' 255 [68,70,74,75] 76 2047,mv' 76 6 4095]
def c236:SC:=(.seq (.reg false yctn) (.seq (.seq (.reg false ycja) (.block 0 (.seq (.reg false ycgl) (.cond (.tmp 9) (.seq (.reg false ycld) .ret) (.seq (.reg false ycme) (.cond (.tmp 13) (.seq (.reg false ycre) .ret) (.seq (.reg false ycpg) (.cond (.tmp 15) (.seq (.reg false yckn) .ret) (.seq (.reg false ycpq) (.cond (.tmp 17) (.seq (.reg false ycwd) .ret) (.seq (.reg false ybre) (.cond (.tmp 19) (.seq (.reg true ybnj) .ret) (.seq (.reg false ybwn) (.cond (.tmp 35) (.seq (.reg true ybsc) .ret) .skip)))))))))))))) (.seq (.reg true ybpu) .ret)))
theorem yczl:Fn 236 c236 [.t 6]:=fn_0 Tryz.func236 (by kernel_rfl) (by kernel_rfl)
def ycsx:LO:=[o3 (.mv (ci' 0)) 6 0,o3 (.mv (ci' 0)) 7 1]
def yciy:LO:=[o3 (.alloc 256 24 [.i .i64 0]) 8 0]
def ycts:LO:=[mv' 0 11 0,o3 (.nilck (.tmp 11)) 12 1,fa' 0 1 12 13 3,ld' false 1 13 14 7,o3 (.nilck (.tmp 14)) 15 15,fa' 3 2 15 16 31,fa' 1 1 16 17 63,ld' false 1 17 18 127,mv' 0 19 0,o3 (.nilck (.tmp 19)) 20 256,fa' 2 1 20 21 768,ld' false 1 21 22 1792,ix' 1 18 22 23 4095,ld' false 1 23 24 8191,ln' 24 25 16383,mv' 25 9 32767]
def ycsr:LO:=[mv' 9 26 0,o3 (.mv (ci' 0)) 27 0]
def yclp:LO:=[bn' .lss 27 26 28 0]
def ycih:LO:=[mv' 27 29 0,mv' 29 10 1]
def ycto:LO:=[mv' 10 31 0,mv' 0 32 0,mv' 2 33 0,o3 (.bin .add (.tmp 33) (ci' 1)) 34 4,mv' 10 35 0,cl' 220 [32,34,35] 36 30,mv' 36 30 62,xt' 30 0 37 126,xt' 30 1 38 126,o3 (.idxA 24 1 (.tmp 8) (.tmp 31)) 39 255,o0 (.store 1 (.tmp 39) (.tmp 37)) 767,mv' 38 7 2047]
def ycti:LO:=[o3 (.bin .add (.tmp 27) (ci' 1)) 40 0,mv' 40 27 1]
def ycry:LO:=[mv' 9 41 0,o3 (.bin .eql (.tmp 41) (ci' 0)) 42 1]
def yclx:LO:=[mv' 0 43 0,o3 (.nilck (.tmp 43)) 44 1,fa' 3 1 44 45 3,ld' false 1 45 46 7,mv' 2 47 0,cl' 231 [46,47] 48 31,mv' 48 7 63]
def ybxp:LO:=[mv' 1 49 0,mv' 9 50 0,o3 (.cutA 24 1 (.tmp 8) none (some (.tmp 50))) 51 2,cl' 257 [49,51] 52 7,mv' 7 53 0,mv' 52 6 15,mv' 53 7 63]
def c238:SC:=(.seq (.reg false ycsx) (.seq (.reg false yciy) (.seq (.reg true ycts) (.seq (.seq (.reg false ycsr) (.block 0 (.loop (.seq (.reg false yclp) (.seq (.cond (.tmp 28) .skip (.exit 0)) (.seq (.block 1 (.seq (.reg false ycih) (.reg false ycto))) (.reg false ycti))))))) (.seq (.seq (.reg false ycry) (.cond (.tmp 42) (.reg false yclx) .skip)) (.seq (.reg false ybxp) .ret))))))
theorem ycyn:Fn 238 c238 [.t 6,.t 7]:=fn_0 Tryz.func238 (by kernel_rfl) (by kernel_rfl)
end Sh
end
section
def adj(g:Gr)(u v:Nat):Prop:=∃ls,g.ports[u]?=some ls/\∃l∈ls,l.1=(v:Int)
def Walk(g:Gr)(a:Nat):Nat->Nat->Prop
 |0,v=>v=a
 |k+1,v=>∃u,Walk g a k u/\adj g u v
def yyk(g:Gr)(a v:Nat)(x:Int):Prop:=(x = -1/\∀k,¬Walk g a k v)\/∃k:Nat,x=k/\Walk g a k v/\∀j,j<k->¬Walk g a j v
def yrk(g:Gr)(a:Nat)(D:List Int):Prop:=D.length=g.ports.length/\∀v x,D[v]?=some x->yyk g a v x
theorem yyk.unique{g:Gr}{a v:Nat}{x y:Int}(h:yyk g a v x)(h':yyk g a v y):x=y:=by
 rcases h with⟨rfl,h1⟩|⟨k,rfl,h1,h2⟩<;>rcases h' with⟨rfl,h3⟩|⟨j,rfl,h3,h4⟩
 ·rfl
 ·exact absurd h3 (h1 j)
 ·exact absurd h1 (h3 k)
 ·rcases zAD k j with h|h|h
  ·exact absurd h1 (h4 k h)
  ·rw[h]
  ·exact absurd h3 (h2 j h)
theorem yrk.unique{g:Gr}{a:Nat}{D D':List Int}(h:yrk g a D)(h':yrk g a D'):D=D':=by
 apply zAG (by rw[h.1,h'.1])
 intro i h1 h2;exact(h.2 i _ (zA h1)).unique (h'.2 i _ (zA h2))
theorem ybc.link{g:Gr}(h:ybc g){v:Nat}{ls:List (Int×Int)}(hv:g.ports[v]?=some ls){l:Int×Int}(hl:l∈ls):0<=l.1/\l.1<g.ports.length/\l.1≠v/\1<=l.2/\l.2<=15:=by
 obtain⟨hlt,e⟩:=List.getElem?_eq_some_iff.1 hv;have:=(h.2.2.2.2.2.1 ⟨v,hlt⟩).1 l (by simp only[Fin.getElem_fin,e];exact hl)
 unfold ykw at this;simp only at this;omega
theorem ybc.adj_lt{g:Gr}(h:ybc g){u v:Nat}(ha:adj g u v):u<g.ports.length/\v<g.ports.length:=by
 obtain⟨ls,h1,l,hl,e⟩:=ha;have:=h.link h1 hl;exact⟨(List.getElem?_eq_some_iff.1 h1).1,by omega⟩
theorem ybc.adj_symm{g:Gr}(h:ybc g){u v:Nat}(ha:adj g u v):adj g v u:=by
 obtain⟨hu,hv⟩:=h.adj_lt ha;obtain⟨ls,h1,l,hl,e⟩:=ha;obtain⟨hlt,e1⟩:=List.getElem?_eq_some_iff.1 h1;have:=h.2.2.2.2.2.2 ⟨u,hlt⟩ l (by simp only[Fin.getElem_fin,e1];exact hl)
 rw[e,zJ]at this;simp only[zM,zA hv,Option.getD_some]at this;exact⟨_,zA hv,_,this,rfl⟩
structure BfsInv(g:Gr)(a:Nat)(R:List Int)(Q:List Nat):Prop where
 len:R.length=g.ports.length
 src:R[a]?=some 0
 val:∀(v:Nat) (x:Int),R[v]?=some x->x = -1\/∃k:Nat,x=k/\Walk g a k v/\∀j,j<k->¬Walk g a j v
 qin:∀q∈Q,∃k:Nat,R[q]?=some (k:Int)
 sorted:Q.Pairwise (fun p q=>∀x y,R[p]?=some x->R[q]?=some y->x<=y/\y<=x+1)
 done:∀(v k:Nat),R[v]?=some (k:Int)->v∉Q->∀u,adj g v u->∃j:Nat,R[u]?=some (j:Int)
structure BfsIn(g:Gr)(a v d:Nat)(ls:List (Int×Int))(i:Nat)(R:List Int)(Q:List Nat):Prop where
 len:R.length=g.ports.length
 src:R[a]?=some 0
 val:∀(v:Nat) (x:Int),R[v]?=some x->x = -1\/∃k:Nat,x=k/\Walk g a k v/\∀j,j<k->¬Walk g a j v
 qin:∀q∈Q,∃k:Nat,R[q]?=some (k:Int)
 sorted:Q.Pairwise (fun p q=>∀x y,R[p]?=some x->R[q]?=some y->x<=y/\y<=x+1)
 rv:R[v]?=some (d:Int)
 low:∀q∈Q,∀y,R[q]?=some y->(d:Int)<=y/\y<=d+1
 done:∀(u k:Nat),R[u]?=some (k:Int)->u∉Q->u≠v->∀t,adj g u t->∃j:Nat,R[t]?=some (j:Int)
 part:∀l∈ls.take i,∃j:Nat,R[l.1.toNat]?=some (j:Int)
theorem BfsInv.start{g:Gr}{a:Nat}(ha:a<g.ports.length):BfsInv g a ((zAK g.ports.length (-1)).set a 0) [a] where
 len:=by simp
 src:=by simp[ha]
 val := by
  intro v x h;rw[zD]at h;split at h
  ·rename_i e
   subst e;simp[ha]at h;subst h;exact .inr ⟨0,rfl,rfl,fun j hj=>absurd hj (by omega)⟩
  ·rw[zN]at h;split at h
   ·cases h;exact .inl rfl
   ·cases h
 qin:=by
  intro q hq;obtain rfl:q=a:=by simpa using hq
  exact⟨0,by simp[ha]⟩
 sorted:=by simp
 done:=by
  intro v k h hv u _;rw[zD]at h;split at h
  ·rename_i e
   exact absurd (by simp[e]) hv
  ·rw[zN]at h;split at h
   ·cases h
   ·cases h
theorem BfsInv.pop{g:Gr}{a:Nat}{R:List Int}{v:Nat}{Q:List Nat}(h:BfsInv g a R (v::Q)){d:Nat}(hd:R[v]?=some (d:Int))(ls:List (Int×Int)):BfsIn g a v d ls 0 R Q where
 len:=h.len
 src:=h.src
 val:=h.val
 qin:=fun q hq=>h.qin q (List.mem_cons_of_mem _ hq)
 sorted:=(List.pairwise_cons.1 h.sorted).2
 rv:=hd
 low:=fun q hq y hy=>(List.pairwise_cons.1 h.sorted).1 q hq _ y hd hy
 done:=fun u k hu hq hv t ht=>h.done u k hu (by simp[hq,hv]) t ht
 part:=by simp
theorem BfsIn.finish{g:Gr}{a v d:Nat}{ls:List (Int×Int)}{R:List Int}{Q:List Nat}(h:BfsIn g a v d ls ls.length R Q)(hls:g.ports[v]?=some ls):BfsInv g a R Q where
 len:=h.len
 src:=h.src
 val:=h.val
 qin:=h.qin
 sorted:=h.sorted
 done:=by
  intro u k hu hq t ht
  by_cases e:u=v
  ·subst e;obtain⟨ls',h1,l,hl,e2⟩:=ht;rw[hls]at h1;cases h1
   have:=h.part l (by rw[zW];exact hl)
   rwa [e2,zJ]at this
  ·exact h.done u k hu hq e t ht
theorem BfsIn.skip{g:Gr}{a v d:Nat}{ls:List (Int×Int)}{i:Nat}{R:List Int}{Q:List Nat}(h:BfsIn g a v d ls i R Q)(hi:i<ls.length){j:Nat}(hj:R[ls[i].1.toNat]?=some (j:Int)):BfsIn g a v d ls (i+1) R Q :=
 ⟨h.len,h.src,h.val,h.qin,h.sorted,h.rv,h.low,h.done,by
   intro l hl;rw[take_snoc ls i hi]at hl;rcases List.mem_append.1 hl with hl|hl
   ·exact h.part l hl
   ·obtain rfl:l=ls[i]:=by simpa using hl
    exact⟨j,hj⟩⟩
theorem BfsIn.found{g:Gr}{a v d:Nat}{ls:List (Int×Int)}{i:Nat}{R:List Int}{Q:List Nat}(h:BfsIn g a v d ls i R Q) :
 ∀k,k<=d->∀t,Walk g a k t->∃j:Nat,R[t]?=some (j:Int):=by
 intro k
 induction k with
 |zero=>intro _ t ht;obtain rfl:t=a:=ht;exact⟨0,h.src⟩
 | succ k ih =>
   intro hk t ⟨p,hp,hpt⟩;obtain⟨j,hj⟩:=ih (by omega) p hp
   have hjk:j<=k:=by
    rcases h.val p _ hj with e|⟨k',e,_,hmin⟩
    ·omega
    ·have:j=k':=by omega
     subst this;rcases zX k j with hlt|hge
     ·exact absurd hp (hmin k hlt)
     ·exact hge
   refine h.done p j hj ?_ ?_ t hpt
   ·intro hq;have:=(h.low p hq _ hj).1;omega
   ·rintro rfl;have e1:=h.rv;rw[hj]at e1;have e2:=Option.some.inj e1;omega
theorem BfsIn.discover{g:Gr}{a v d:Nat}{ls:List (Int×Int)}{i:Nat}{R:List Int}{Q:List Nat}(h:BfsIn g a v d ls i R Q)(hls:g.ports[v]?=some ls)(hi:i<ls.length){u:Nat}(hu:ls[i].1=(u:Int))(hR:R[u]?=some (-1)) :
 BfsIn g a v d ls (i+1) (R.set u ((d:Int)+1)) (Q++[u]):=by
 have hul:u<R.length:=(List.getElem?_eq_some_iff.1 hR).1
 have hne:∀t (k:Nat),R[t]?=some (k:Int)->t≠u:=by
  rintro t k ht rfl;rw[hR]at ht;have:=Option.some.inj ht;omega
 have hset:∀t,t≠u->(R.set u ((d:Int)+1))[t]?=R[t]?:=fun t ht=>by rw[zD,if_neg (by omega)]
 have hsu:(R.set u ((d:Int)+1))[u]?=some ((d:Int)+1):=by rw[zD,if_pos rfl,if_pos hul]
 have keep:∀t:Nat,(∃j:Nat,R[t]?=some (j:Int))->∃j:Nat,(R.set u ((d:Int)+1))[t]?=some (j:Int):=by
  rintro t ⟨j,hj⟩;exact⟨j,by rw[hset t (hne t j hj)];exact hj⟩
 have hadj:adj g v u:=⟨ls,hls,ls[i],zY hi,hu⟩
 have hnq:u∉Q:=fun hq=>by
  obtain⟨k,hk⟩:=h.qin u hq;exact hne u k hk rfl
 refine⟨by simp[h.len],?_,?_,?_,?_,?_,?_,?_,?_⟩
 ·rw[hset a (hne a 0 h.src)];exact h.src
 ·intro t x hx
  by_cases e:t=u
  ·subst e;rw[hsu]at hx;cases hx
   refine .inr ⟨d+1,by omega,?_,?_⟩
   ·rcases h.val v _ h.rv with e|⟨k,e,hk,_⟩
    ·omega
    ·have:d=k:=by omega
     subst this;exact⟨v,hk,hadj⟩
   ·intro j hj hw;obtain⟨k,hk⟩:=h.found j (by omega) t hw
    exact hne t k hk rfl
  ·rw[hset t e]at hx;exact h.val t x hx
 ·intro q hq;rcases List.mem_append.1 hq with hq|hq
  ·exact keep q (h.qin q hq)
  ·obtain rfl:q=u:=by simpa using hq
   exact⟨d+1,by rw[hsu];rfl⟩
 ·rw[List.pairwise_append];refine⟨?_,by simp,?_⟩
  ·refine(List.Pairwise.and_mem.1 h.sorted).imp ?_;rintro p q ⟨hp,hq,hpq⟩ x y hx hy;rw[hset p (fun e=>hnq (e▸hp))]at hx;rw[hset q (fun e=>hnq (e▸hq))]at hy;exact hpq x y hx hy
  ·intro p hp q hq x y hx hy;obtain rfl:q=u:=by simpa using hq
   rw[hset p (fun e=>hnq (e▸hp))]at hx;rw[hsu]at hy;cases hy
   have:=h.low p hp x hx;omega
 ·rw[hset v (hne v d h.rv)];exact h.rv
 ·intro q hq y hy;rcases List.mem_append.1 hq with hq|hq
  ·rw[hset q (fun e=>hnq (e▸hq))]at hy;exact h.low q hq y hy
  ·obtain rfl:q=u:=by simpa using hq
   rw[hsu]at hy;cases hy
   omega
 ·intro t k ht hq hv s hs;have htu:t≠u:=fun e=>hq (by simp[e])
  rw[hset t htu]at ht;exact keep s (h.done t k ht (fun hh=>hq (List.mem_append_left _ hh)) hv s hs)
 ·intro l hl;rw[take_snoc ls i hi]at hl;rcases List.mem_append.1 hl with hl|hl
  ·exact keep _ (h.part l hl)
  ·obtain rfl:l=ls[i]:=by simpa using hl
   rw[hu,zJ];exact⟨d+1,by rw[hsu];rfl⟩
theorem BfsInv.isDist{g:Gr}{a:Nat}{R:List Int}(h:BfsInv g a R []):yrk g a R:=by
 have found:∀k t,Walk g a k t->∃j:Nat,R[t]?=some (j:Int):=by
  intro k
  induction k with
  |zero=>intro t ht;obtain rfl:t=a:=ht;exact⟨0,h.src⟩
  | succ k ih =>
    intro t ⟨p,hp,hpt⟩;obtain⟨j,hj⟩:=ih p hp;exact h.done p j hj (by simp) t hpt
 refine⟨h.len,fun v x hx=>?_⟩;rcases h.val v x hx with rfl|h1
 ·refine .inl ⟨rfl,fun k hk=>?_⟩;obtain⟨j,hj⟩:=found k v hk;rw[hx]at hj;have:=Option.some.inj hj;omega
 ·exact .inr h1
def yck(R:List Int):Nat:=R.countP (fun x=>decide (x<0))
theorem yrw{R:List Int}{u:Nat}{x:Int}(hR:R[u]?=some (-1))(hx:0<=x):yck (R.set u x)+1=yck R:=by
 obtain⟨hlt,e⟩:=List.getElem?_eq_some_iff.1 hR;have h1:R=R.take u++R[u]::R.drop (u+1):=by rw[List.getElem_cons_drop,List.take_append_drop]
 have h2:R.set u x=R.take u++x::R.drop (u+1):=by rw[List.set_eq_take_append_cons_drop,if_pos hlt]
 have hx':decide (x<0)=false:=by simp;omega
 unfold yck;rw[h2]
 conv=>rhs;rw[h1]
 rw[zAC,zAC,zAH,zAH,e,hx'];simp;omega
end
section
def ycbq(R:List Int)(x:Int)(ls:List (Int×Int)):Bool:=ls.any (fun l=>decide (R[l.1.toNat]?=some x))
def ycbp(g:Gr)(d:Int)(R:List Int)(v:Nat):List Int :=
 if decide (R.getD v 0<0)&&ycbq R (d-1) (g.ports.getD v [])then R.set v d else R
def stepD(g:Gr)(R:List Int)(d:Nat):List Int:=(zL g.ports.length).foldl (ycbp g d) R
def start(g:Gr)(a:Nat):List Int:=(zAK g.ports.length (-1)).set a 0
def ybt(g:Gr)(a:Nat):List Int:=(zL (g.ports.length-1)).foldl (fun R d=>stepD g R (d+1)) (start g a)
def Upto(g:Gr)(a d v:Nat)(x:Int):Prop:=(x = -1/\∀k,k<=d->¬Walk g a k v)\/∃k:Nat,k<=d/\x=k/\Walk g a k v/\∀j,j<k->¬Walk g a j v
theorem Upto.eq{g:Gr}{a d v:Nat}{x:Int}(h:Upto g a d v x){k:Nat}(hk:k<=d):x=k↔Walk g a k v/\∀j,j<k->¬Walk g a j v:=by
 rcases h with⟨rfl,h1⟩|⟨i,hi,rfl,h1,h2⟩
 ·exact⟨fun e=>by omega,fun e=>absurd e.1 (h1 k hk)⟩
 ·constructor
  ·intro e;obtain rfl:i=k:=by omega
   exact⟨h1,h2⟩
  ·rintro⟨h3,h4⟩;rcases zAD i k with h|h|h
   ·exact absurd h1 (h4 i h)
   ·omega
   ·exact absurd h3 (h2 k h)
theorem Upto.more{g:Gr}{a d v:Nat}{x:Int}(h:Upto g a d v x)(hx:0<=x):Upto g a (d+1) v x:=by
 rcases h with⟨rfl,h1⟩|⟨i,hi,rfl,h1,h2⟩
 ·omega
 ·exact .inr ⟨i,by omega,rfl,h1,h2⟩
structure LayerInv(g:Gr)(a d v:Nat)(R:List Int):Prop where
 len:R.length=g.ports.length
 new:∀(u:Nat) (x:Int),R[u]?=some x->u<v->Upto g a (d+1) u x
 old:∀(u:Nat) (x:Int),R[u]?=some x->v<=u->Upto g a d u x
theorem LayerInv.at_{g:Gr}{a d v:Nat}{R:List Int}(h:LayerInv g a d v R){u:Nat}(hu:u<g.ports.length):R[u]?=some (d:Int)↔Walk g a d u/\∀j,j<d->¬Walk g a j u:=by
 have hl:=h.len;have e:R[u]?=some R[u]:=zA (by omega)
 have hx:R[u]=(d:Int)↔Walk g a d u/\∀j,j<d->¬Walk g a j u:=by
  by_cases hv:u<v
  ·exact(h.new u _ e hv).eq (by omega)
  ·exact(h.old u _ e (by omega)).eq (by omega)
 rw[e]
 simpa using hx
theorem LayerInv.step{g:Gr}(hg:ybc g){a d v:Nat}{R:List Int}(h:LayerInv g a d v R)(hv:v<g.ports.length):LayerInv g a d (v+1) (ycbp g ((d:Int)+1) R v):=by
 have hlen:=h.len;have ev:R[v]?=some R[v]:=zA (by omega)
 have eg:R.getD v 0=R[v]:=by simp[zM,ev]
 have ep:g.ports.getD v []=g.ports[v]:=by simp[zM,zA hv]
 have hhas:ycbq R ((d:Int)+1-1) g.ports[v]=true↔∃u,adj g u v/\Walk g a d u/\∀j,j<d->¬Walk g a j u:=by
  unfold ycbq;rw[List.any_eq_true];constructor
  ·rintro⟨l,hl,h1⟩;have hlk:=hg.link (zA hv) hl;have h1:=of_decide_eq_true h1;rw[show(d:Int)+1-1=d by omega]at h1
   refine⟨l.1.toNat,hg.adj_symm ⟨_,zA hv,l,hl,by omega⟩,?_⟩
   exact(h.at_ (by omega)).1 h1
  ·rintro⟨u,hu,hw⟩;obtain⟨hu1,_⟩:=hg.adj_lt hu;obtain⟨ls,h1,l,hl,e⟩:=hg.adj_symm hu;rw[zA hv]at h1;cases h1
   refine⟨l,hl,decide_eq_true ?_⟩;rw[e,zJ,show(d:Int)+1-1=d by omega]
   exact(h.at_ hu1).2 hw
 have hov:=h.old v _ ev (zF _);unfold ycbp;rw[eg,ep]
 by_cases c1:R[v]<0
 ·have hx:R[v] = -1/\∀k,k<=d->¬Walk g a k v:=by
   rcases hov with h1|⟨k,_,e,_⟩
   ·exact h1
   ·omega
  by_cases c2:ycbq R ((d:Int)+1-1) g.ports[v]=true
  ·rw[if_pos (by rw[zK];exact⟨decide_eq_true c1,c2⟩)]
   obtain⟨p,hp,hw,_⟩:=hhas.1 c2;have hset:∀t,t≠v->(R.set v ((d:Int)+1))[t]?=R[t]?:=fun t ht=>by rw[zD,if_neg (by omega)]
   refine⟨by simp[hlen],fun u x hu huv=>?_,fun u x hu huv=>?_⟩
   ·by_cases e:u=v
    ·subst e;rw[zD,if_pos rfl,if_pos (by omega)]at hu
     cases hu
     exact .inr ⟨d+1,zF _,by omega,⟨p,hw,hp⟩,fun j hj=>hx.2 j (by omega)⟩
    ·rw[hset u e]at hu;exact h.new u x hu (by omega)
   ·rw[hset u (by omega)]at hu
    exact h.old u x hu (by omega)
  ·rw[if_neg (fun e=>c2 (zK _ _▸e).2)];refine⟨hlen,fun u x hu huv=>?_,fun u x hu huv=>h.old u x hu (by omega)⟩
   by_cases e:u=v
   ·subst e;rw[ev]at hu;cases hu
    refine .inl ⟨hx.1,fun k hk hw=>?_⟩;rcases zX d k with hlt|hge
    ·obtain rfl:k=d+1:=by omega
     obtain⟨p,hp,hpv⟩:=hw;refine c2 (hhas.2 ⟨p,hpv,hp,fun j hj hw'=>hx.2 (j+1) (by omega) ⟨p,hw',hpv⟩⟩)
    ·exact hx.2 k hge hw
   ·exact h.new u x hu (by omega)
 ·rw[if_neg (by simp[c1])]
  refine⟨hlen,fun u x hu huv=>?_,fun u x hu huv=>h.old u x hu (by omega)⟩
  by_cases e:u=v
  ·subst e;exact(h.old u x hu (zF _)).more (by rw[ev]at hu;cases hu;omega)
  ·exact h.new u x hu (by omega)
theorem yvc{g:Gr}(hg:ybc g){a d:Nat}{R:List Int}(h:LayerInv g a d 0 R):∀v,v<=g.ports.length->LayerInv g a d v ((zL v).foldl (ycbp g ((d:Int)+1)) R)
 |0,_=>h
 | v+1,hv=>by
   rw[zAJ,zO];exact(yvc hg h v (by omega)).step hg (by omega)
def yxr(g:Gr)(a d:Nat)(R:List Int):Prop:=R.length=g.ports.length/\∀(u:Nat) (x:Int),R[u]?=some x->Upto g a d u x
theorem ybjr{g:Gr}{a:Nat}(ha:a<g.ports.length):yxr g a 0 (start g a):=by
 refine⟨by simp[start],fun u x hu=>?_⟩
 unfold start at hu;rw[zD]at hu;split at hu
 ·rename_i e
  subst e;simp[ha]at hu;subst hu;exact .inr ⟨0,zF _,rfl,rfl,fun j hj=>absurd hj (by omega)⟩
 ·rename_i e
  rw[zN]at hu;split at hu
  ·cases hu
   refine .inl ⟨rfl,fun k hk hw=>?_⟩;obtain rfl:k=0:=by omega
   exact e hw.symm
  ·cases hu
theorem ybkm{g:Gr}(hg:ybc g){a d:Nat}{R:List Int}(h:yxr g a d R):yxr g a (d+1) (stepD g R (d+1)):=by
 have h0:LayerInv g a d 0 R:=⟨h.1,fun _ _ _ hu=>absurd hu (by omega),fun u x hu _=>h.2 u x hu⟩
 have h1:=yvc hg h0 g.ports.length (zF _);unfold stepD;rw[show((d+1:Nat):Int)=(d:Int)+1 by omega]
 exact⟨h1.len,fun u x hu=>h1.new u x hu (by rw[<-h1.len];exact(List.getElem?_eq_some_iff.1 hu).1)⟩
theorem yse{g:Gr}(hg:ybc g){a:Nat}(ha:a<g.ports.length):∀d,yxr g a d ((zL d).foldl (fun R d=>stepD g R (d+1)) (start g a))
 |0=>ybjr ha
 |d+1=>by rw[zAJ,zO];exact ybkm hg (yse hg ha d)
theorem chain{g:Gr}{a:Nat}:∀k v,Walk g a k v->(∀j,j<k->¬Walk g a j v)->∃f:Nat->Nat,∀j,j<=k->Walk g a j (f j)/\∀i,i<j->¬Walk g a i (f j)
 | 0,v,h,_=>⟨fun _=>v,fun j hj=>by obtain rfl:j=0:=by omega
                                   exact⟨h,fun i hi=>absurd hi (by omega)⟩⟩
 | k + 1,v,h,hm=>by
   obtain⟨p,hp,hpv⟩:=h;obtain⟨f,hf⟩:=chain k p hp (fun j hj hw=>hm (j+1) (by omega) ⟨p,hw,hpv⟩)
   refine⟨fun j=>if j<=k then f j else v,fun j hj=>?_⟩
   by_cases hjk:j<=k
   ·simp only[if_pos hjk];exact hf j hjk
   ·obtain rfl:j=k+1:=by omega
    simp only[if_neg hjk];exact⟨⟨p,hp,hpv⟩,hm⟩
theorem walk_lt{g:Gr}(hg:ybc g){a:Nat}(ha:a<g.ports.length):∀k v,Walk g a k v->v<g.ports.length
 |0,v,h=>by obtain rfl:v=a:=h;exact ha
 |k+1,v,h=>by obtain⟨u,_,hu⟩:=h;exact(hg.adj_lt hu).2
theorem least_walk{g:Gr}{a v:Nat}:∀k,Walk g a k v->∃j,j<=k/\Walk g a j v/\∀i,i<j->¬Walk g a i v:=by
 intro k
 induction k using Nat.strongRecOn with
 | _ k ih =>
   intro hw
   by_cases h:∃j,j<k/\Walk g a j v
   ·obtain⟨j,hj,hwj⟩:=h;obtain⟨i,hi,r⟩:=ih j hj hwj;exact⟨i,by omega,r⟩
   ·exact⟨k,zF _,hw,fun i hi hwi=>h ⟨i,hi,hwi⟩⟩
theorem yrq{g:Gr}(hg:ybc g){a v k:Nat}(ha:a<g.ports.length)(h:Walk g a k v)(hm:∀j,j<k->¬Walk g a j v):k<g.ports.length:=by
 obtain⟨f,hf⟩:=chain k v h hm;have hinj:∀i j,i<j->j<=k->f i≠f j:=fun i j hij hj e=>(hf j hj).2 i hij (by rw[<-e];exact(hf i (by omega)).1)
 have h1:((zL (k+1)).map f).Nodup:=by
  rw[List.Nodup,List.pairwise_map];refine(List.Pairwise.and_mem.1 List.pairwise_lt_range).imp ?_;rintro i j ⟨_,hj,hij⟩;exact hinj i j hij (by simp at hj;omega)
 have h2:(zL (k+1)).map f ⊆ zL g.ports.length:=by
  intro x hx;obtain⟨j,hj,rfl⟩:=List.mem_map.1 hx;simp only[List.mem_range]at hj ⊢;exact walk_lt hg ha j _ (hf j (by omega)).1
 have:=List.Nodup.length_le_of_subset h1 h2;simp at this;omega
theorem ydq{g:Gr}(hg:ybc g){a:Nat}(ha:a<g.ports.length):yrk g a (ybt g a):=by
 obtain⟨h1,h2⟩:=yse hg ha (g.ports.length-1);refine⟨h1,fun v x hx=>?_⟩;rcases h2 v x hx with⟨rfl,h3⟩|⟨k,_,r⟩
 ·refine .inl ⟨rfl,fun k hk=>?_⟩;obtain⟨j,_,hj,hm⟩:=least_walk k hk;have:=yrq hg ha hj hm;exact h3 j (by omega) hj
 ·exact .inr ⟨k,r⟩
theorem yrk.bound{g:Gr}(hg:ybc g){a:Nat}(ha:a<g.ports.length){D:List Int}(h:yrk g a D):∀x∈D,-1<=x/\x<=24:=by
 intro x hx;obtain⟨v,hv,rfl⟩:=List.mem_iff_getElem.1 hx;rcases h.2 v _ (zA hv)with⟨e,_⟩|⟨k,e,h1,h2⟩
 ·omega
 ·have:=yrq hg ha h1 h2;have:=hg.2.1;omega
end
section
def ydf(g:Gr):Bool:=yhz g&&(ybt g 0).all (fun x=>decide (0<=x))
def yfq(D:List Int):Int:=D.foldl max (-1)
def eccP(g:Gr)(v:Int):Int:=if ydf g=true/\0<=v/\v<g.ports.length then yfq (ybt g v.toNat)else -1
theorem yfo(D:List Int):∀m:Int,m<=D.foldl max m:=by
 induction D with
 |nil=>intro m;exact zAE _
 |cons x D ih=>intro m;exact zAN (Int.le_max_left m x) (ih _)
theorem ypg(D:List Int)(m:Int)(hm:-1<=m)(h:∀x∈D,x<=m):yfq D<=m:=by
 unfold yfq
 suffices ∀a:Int,a<=m->D.foldl max a<=m from this _ hm
 induction D with
 |nil=>intro a ha;exact ha
 |cons x D ih=>intro a ha;exact ih (fun y hy=>h y (by simp[hy])) _ (Int.max_le.2 ⟨ha,h x (by simp)⟩)
theorem ybbv(D:List Int):∀x∈D,x<=yfq D:=by
 unfold yfq
 suffices ∀a:Int,∀x∈D,x<=D.foldl max a from this _
 induction D with
 |nil=>intro a x hx;simp at hx
 | cons y D ih =>
   intro a x hx;rcases List.mem_cons.1 hx with rfl|hx
   ·exact zAN (Int.le_max_right a x) (yfo D _)
   ·exact ih _ x hx
theorem ywr(D:List Int):-1<=yfq D:=yfo D _
theorem yfx{g:Gr}(hg:ybc g){a:Nat}(ha:a<g.ports.length):(ybt g a).length=g.ports.length:=(ydq hg ha).1
theorem Walk.trans{g:Gr}{a b:Nat}:∀{j:Nat}{c:Nat}{k:Nat},Walk g a k b->Walk g b j c->Walk g a (k+j) c
 |0,c,k,h1,h2=>by obtain rfl:c=b:=h2;exact h1
 | j+1,c,k,h1,h2=>by
   obtain⟨u,hu,huc⟩:=h2;exact⟨u,Walk.trans h1 hu,huc⟩
theorem Walk.one{g:Gr}{a b:Nat}(h:adj g a b):Walk g a 1 b:=⟨a,rfl,h⟩
theorem Walk.symm{g:Gr}(hg:ybc g){a:Nat}:∀{k:Nat}{b:Nat},Walk g a k b->Walk g b k a
 |0,b,h=>by obtain rfl:b=a:=h;exact rfl
 | k+1,b,h=>by
   obtain⟨u,hu,hub⟩:=h;have:=Walk.trans (Walk.one (hg.adj_symm hub)) (Walk.symm hg hu)
   rwa [Nat.add_comm]at this
theorem yrh{g:Gr}(hg:ybc g){a:Nat}(ha:a<g.ports.length):(ybt g a).all (fun x=>decide (0<=x))=true↔∀v,v<g.ports.length->∃k,Walk g a k v:=by
 have hd:=ydq hg ha;rw[zZ];constructor
 ·intro h v hv;have hv':v<(ybt g a).length:=by rw[hd.1];exact hv
  rcases hd.2 v _ (zA hv')with⟨e,_⟩|⟨k,_,hk,_⟩
  ·have:=of_decide_eq_true (h _ (zY hv'));omega
  ·exact⟨k,hk⟩
 ·intro h x hx;obtain⟨v,hv,rfl⟩:=List.mem_iff_getElem.1 hx;obtain⟨k,hk⟩:=h v (by rw[<-hd.1];exact hv)
  rcases hd.2 v _ (zA hv)with⟨e,h1⟩|⟨k,e,_⟩
  ·exact absurd hk (h1 k)
  ·rw[e];simp
theorem ybix{g:Gr}(hg:ybc g){a b:Nat}(ha:a<g.ports.length)(hb:b<g.ports.length)(h:(ybt g a).all (fun x=>decide (0<=x))=true):(ybt g b).all (fun x=>decide (0<=x))=true:=by
 rw[yrh hg ha]at h;rw[yrh hg hb];intro v hv;obtain⟨k,hk⟩:=h v hv;obtain⟨j,hj⟩:=h b hb;exact⟨_,Walk.trans (Walk.symm hg hj) hk⟩
end
section
abbrev Conf:=List (List Int)
abbrev Bounds:=List (Int×Int)
def yrr(bs:Bounds)(s:List Int):Bool:=decide (s.length=bs.length)&&(bs.zip s).all (fun p=>decide (p.1.1<=p.2)&&decide (p.2<=p.1.2))
def ynt(n:Nat)(bs:Nat->Bounds)(c:Conf):Bool:=decide (c.length=n)&&c.zipIdx.all (fun p=>yrr (bs p.2) p.1)
def yev(bs:Bounds)(s:List Int):Prop:=s.length=bs.length/\∀(i:Nat) b x,bs[i]?=some b->s[i]?=some x->b.1<=x/\x<=b.2
def ybhk(n:Nat)(bs:Nat->Bounds)(c:Conf):Prop:=c.length=n/\∀(v:Nat) s,c[v]?=some s->yev (bs v) s
theorem yfm(bs:Bounds)(s:List Int):yrr bs s=true↔yev bs s:=by
 unfold yrr yev;rw[zK,decide_eq_true_iff,zZ];refine and_congr_right fun _=>⟨fun h i b x hb hx=>?_,fun h p hp=>?_⟩
 ·have:=h (b,x) (List.mem_of_getElem? (i:=i) (by simp[zU,hb,hx]))
  simpa using this
 ·obtain⟨i,hi⟩:=List.mem_iff_getElem?.1 hp;obtain⟨b,x⟩:=p;rw[zU]at hi
  simpa using h i b x hi.1 hi.2
theorem yff(n:Nat)(bs:Nat->Bounds)(c:Conf):ynt n bs c=true↔ybhk n bs c:=by
 unfold ynt ybhk;rw[zK,decide_eq_true_iff,zZ];refine and_congr_right fun _=>⟨fun h v s hs=>?_,fun h p hp=>?_⟩
 ·refine(yfm _ _).1 (h (s,v) ?_);rw[zS];exact hs
 ·rw[zS]at hp;exact(yfm _ _).2 (h p.2 p.1 hp)
theorem yin{n:Nat}{bs:Nat->Bounds}{c:Conf}(h:¬ybhk n bs c):ynt n bs c=false:=by
 cases hb:ynt n bs c with
 |false=>rfl
 |true=>exact absurd ((yff n bs c).1 hb) h
theorem yvh{n:Nat}{bs:Nat->Bounds}{c:Conf}(h:ybhk n bs c):ynt n bs c=true:=(yff n bs c).2 h
def yccb(g:Gr)(v:Nat):Nat:=(g.ports.getD v []).length
def ydz(g:Gr)(G:List Int)(v:Nat):Bounds:=G.map (fun h=>if h = -1 then(-1,(yccb g v:Int)-1)else(0,h))
def yjh(g:Gr):Int:=g.ids.foldl max 0
end
section
open Go.RowKit
end
section
open Go.RowKit
end
section
open Go.RowKit
def yhf(acc:Int×Int->Bool)(ls:List (Int×Int)):Int:=match ls.findIdx? acc with|some i=>i|none=>-1
end
section
def ynr(D:List Int)(v:Nat)(l:Int×Int):Bool:=D.getD l.1.toNat 0==D.getD v 0-1
def wayP(g:Gr)(D:List Int)(v:Nat):Int:=yhf (ynr D v) (g.ports.getD v [])
end
section
def yzo(ids:List Int)(k:Nat):Int:=(ids.take k).tail.foldl max (ids.headD 0)
def yzr(ids:List Int)(k:Nat):Int:=(ids.take k).tail.foldl min (ids.headD 0)
abbrev maxI(ids:List Int):Int:=yzo ids ids.length
abbrev minI(ids:List Int):Int:=yzr ids ids.length
theorem yyp{ids:List Int}{k:Nat}(h1:1<=k)(hk:k<ids.length):(ids.take (k+1)).tail=(ids.take k).tail++[ids[k]]:=by
 rw[zI hk,List.tail_append_of_ne_nil];intro h;have:=congrArg zAP h;rw[List.length_take,zAI]at this;omega
theorem ybox(ids:List Int):yzo ids 1=ids.headD 0:=by cases ids<;>simp[yzo]
theorem ybar(ids:List Int):yzr ids 1=ids.headD 0:=by cases ids<;>simp[yzr]
theorem yblj{ids:List Int}{k:Nat}(h1:1<=k)(hk:k<ids.length):yzo ids (k+1)=max (yzo ids k) ids[k]:=by
 unfold yzo;rw[yyp h1 hk,zO];rfl
theorem yvs{ids:List Int}{k:Nat}(h1:1<=k)(hk:k<ids.length):yzr ids (k+1)=min (yzr ids k) ids[k]:=by
 unfold yzr;rw[yyp h1 hk,zO];rfl
theorem yyg{ids:List Int}(h0:0<ids.length)(h:∀x∈ids,0<=x):maxI ids=ids.foldl max 0:=by
 cases ids with
 |nil=>simp at h0
 | cons x l =>
   have hx:max 0 x=x:=Int.max_eq_right (h x (by simp))
   simp[maxI,yzo,hx]
def yfk(ids:List Int):Nat->Nat
 |0=>0
 |k+1=>if ids.getD k 0<ids.getD (yfk ids k) 0 then k else yfk ids k
abbrev ybp(ids:List Int):Nat:=yfk ids ids.length
theorem ysg(ids:List Int):yfk ids 1=0:=by simp[yfk]
theorem yeu(ids:List Int):∀k,1<=k->k<=ids.length->yfk ids k<k/\(∀j,j<k->ids.getD (yfk ids k) 0<=ids.getD j 0)/\(∀j,j<yfk ids k->ids.getD (yfk ids k) 0<ids.getD j 0):=by
 intro k
 induction k with
 |zero=>intro h;omega
 | succ k ih =>
   intro _ hk;rcases zT k with rfl|hpos
   ·rw[ysg];refine⟨by omega,fun j hj=>?_,fun j hj=>absurd hj (by omega)⟩
    obtain rfl:j=0:=by omega
    exact zAE _
   ·obtain⟨h1,h2,h3⟩:=ih hpos (by omega)
    unfold yfk;split
    ·rename_i hlt
     refine⟨by omega,fun j hj=>?_,fun j hj=>?_⟩
     ·rcases zX j k with q|q
      ·have:=h2 j q;omega
      ·obtain rfl:j=k:=by omega
       exact zAE _
     ·have:=h2 j hj;omega
    ·rename_i hnl
     refine⟨by omega,fun j hj=>?_,h3⟩
     rcases zX j k with q|q
     ·exact h2 j q
     ·obtain rfl:j=k:=by omega
      omega
theorem ybdd(ids:List Int):∀k,1<=k->k<=ids.length->yzr ids k=ids.getD (yfk ids k) 0:=by
 intro k
 induction k with
 |zero=>intro h;omega
 | succ k ih =>
   intro _ hk;rcases zT k with rfl|hpos
   ·rw[ybar,ysg];cases ids<;>simp
   ·rw[yvs hpos (by omega),ih hpos (by omega)]
    have e:ids[k]=ids.getD k 0:=by simp[zM,zA (show k<ids.length by omega)]
    rw[e];show _=ids.getD (if ids.getD k 0<ids.getD (yfk ids k) 0 then k else yfk ids k) 0
    split<;>omega
def idxP(ids:List Int)(x:Int):Int:=match ids.findIdx? (fun y=>x==y)with
 |some i=>i
 |none=>-1
theorem yble{ids:List Int}(h0:0<ids.length):idxP ids (minI ids)=ybp ids:=by
 have h1:ybp ids<ids.length:=(yeu ids ids.length h0 (zF _)).1;have h3:∀j,j<ybp ids->ids.getD (ybp ids) 0<ids.getD j 0:=(yeu ids ids.length h0 (zF _)).2.2;have hm:minI ids=ids.getD (ybp ids) 0:=ybdd ids ids.length h0 (zF _)
 have:ids.findIdx? (fun y=>minI ids==y)=some (ybp ids):=by
  rw[zH];refine⟨h1,?_,fun j hj=>?_⟩
  ·have e:ids[ybp ids]=ids.getD (ybp ids) 0:=by simp[zM,zA h1]
   rw[e,<-hm];simp
  ·have hjl:j<ids.length:=by omega
   have e:ids[j]=ids.getD j 0:=by simp[zM,zA hjl]
   have:=h3 j hj;rw[e,hm];intro q;have q:=eq_of_beq q;omega
 unfold idxP;rw[this]
theorem ycbw{ids:List Int}{x:Int}{k:Nat}(hk:k<ids.length)(h:x=ids[k])(hn:(ids.take k).findIdx? (fun y=>x==y)=none):idxP ids x=k:=by
 unfold idxP
 have:ids.findIdx? (fun y=>x==y)=some k:=by
  rw[zH];refine⟨hk,by simp[h],fun j hj=>?_⟩
  rw[zV]at hn;simp[hn ids[j] (List.mem_take_iff_getElem.2 ⟨j,by omega,rfl⟩)]
 rw[this]
theorem ybvf{ids:List Int}{x:Int}(hn:(ids.take ids.length).findIdx? (fun y=>x==y)=none):idxP ids x = -1:=by
 rw[zW]at hn;unfold idxP;rw[hn]
theorem ycfp{ids:List Int}{x:Int}{k:Nat}(hk:k<ids.length)(h:x≠ids[k])(hn:(ids.take k).findIdx? (fun y=>x==y)=none):(ids.take (k+1)).findIdx? (fun y=>x==y)=none:=by
 rw[zI hk,zAB,hn];simp[h]
end
section
namespace Sh
open Go Ev
def yx(l:List Int):SV:=.sl 1 l.length (fun k=>[.i .i64 (l.getD k 0)])
def ybd(ls:List (Int×Int)):SV:=.sl 2 ls.length (fun j=>[.i .i64 (ls.getD j (0,0)).1,.i .i64 (ls.getD j (0,0)).2])
def ybe(ps:List (List (Int×Int))):SV:=.sl 1 ps.length (fun v=>[ybd (ps.getD v [])])
def ybl(c:List (List Int)):SV:=.sl 1 c.length (fun v=>[yx (c.getD v [])])
def grV(g:Gr):SV:=.ag [yx g.ids,ybe g.ports]
theorem ik{n:Int}(h1:-1000000000000<=n)(h2:n<=1000000000000):inK .i64 n:=by
 unfold inK;simp[IntKind.min,IntKind.max,IntKind.bits,IntKind.signed];omega
theorem ikw{n:Int}(h1:-4611686018427387904<=n)(h2:n<=4611686018427387904):inK .i64 n:=by
 unfold inK;simp[IntKind.min,IntKind.max,IntKind.bits,IntKind.signed];omega
theorem getD_at{α:Type}{l:List α}{k:Nat}{d:α}(h:k<l.length):l.getD k d=l[k]:=by simp[zM,h]
theorem yxi{l:List Int}{i k:Nat}{x:Int}(h:i<l.length):(l.set i x).getD k 0=if k=i then x else l.getD k 0:=by
 simp only[zM,zD]
 by_cases q:i=k
 ·subst q;simp[h]
 ·rw[if_neg q,if_neg (Ne.symm q)]
theorem ybcw(l:List Int)(x:Int)(hl:l.length<=100000):Returns zB 165 [yx l,.i .i64 x] (.i .i64 (idxP l x)):=by
 refine Returns.of (ydac _ _ ?_);simp only[c165,ycqv,ycvm,yx,go_sem,zG,↓reduceIte,reduceCtorEq];refine ybj (σ:=Nat) (fun k=>⟨[(8,.i .i64 k),(0,yx l),(1,.i .i64 x),(7,.i .i64 l.length)],[]⟩) (fun k=>k<=l.length/\(l.take k).findIdx? (fun y=>x==y)=none) (fun k=>l.length-k) 0 ⟨zAF _,by simp⟩ ?_ ?_
 ·refine yj [] [] [] ?_;simp only[yx,allQ,live,yg,zAA,go_sem,zC,↓reduceIte,reduceCtorEq]
 ·intro k ⟨hk,hno⟩;simp only[ycuf,ychw,ychs,ycnr,ycnj,ycqw,yx,ybb,go_sem,zC,zG,↓reduceIte,reduceCtorEq];refine⟨fun h=>⟨by omega,fun he=>?_,fun he=>⟨ik (by omega) (by omega),?_⟩⟩,fun h=>?_⟩
  ·have hlt:k<l.length:=by omega
   rw[ycbw hlt (by rw[he,getD_at hlt]) hno]
  ·have hlt:k<l.length:=by omega
   refine yw (k+1) ⟨by omega,ycfp hlt (by rw[<-getD_at (d:=0) hlt];exact he) hno⟩ (by omega) ?_
   refine yj [] [] [] ?_;simp only[allQ,live,yg,ybb,go_sem,zC,↓reduceIte,reduceCtorEq];simp
  ·obtain rfl:k=l.length:=by omega
   rw[ybvf hno]
theorem ybzs(l:List Int)(h0:0<l.length)(hl:l.length<=100000):Returns zB 160 [yx l] (.i .i64 (maxI l)):=by
 refine Returns.of (ydei _ _ ?_);simp only[c160,ycxd,ycos,ycvh,ycmj,ycwq,yx,go_sem,Int.reduceToNat,zC,zG,↓reduceIte,reduceCtorEq];refine⟨fun h=>by omega,fun _=>⟨by omega,?_⟩⟩
 refine ybj (σ:=Nat) (fun k=>⟨[(4,.i .i64 k),(3,.i .i64 (yzo l k)),(0,yx l)],[]⟩) (fun k=>1<=k/\k<=l.length) (fun k=>l.length-k) 1 ⟨by omega,by omega⟩ ?_ ?_
 ·refine yj [] [] [] ?_;simp only[yx,ybox,allQ,live,yg,ybb,go_sem,zC,↓reduceIte,reduceCtorEq];cases l<;>simp at h0 ⊢
 ·intro k ⟨hk1,hk⟩;simp only[yclb,ycnl,ycmd,ycws,yx,ybb,go_sem,zC,zG,↓reduceIte,reduceCtorEq];refine⟨fun h=>⟨by omega,ik (by omega) (by omega),?_⟩,fun h=>?_⟩
  ·refine yw (k+1) ⟨by omega,by omega⟩ (by omega) ?_
   refine yj [] [] [] ?_;have hlt:k<l.length:=by omega
   simp only[yblj hk1 hlt,getD_at hlt,allQ,live,yg,ybb,go_sem,zC,↓reduceIte,reduceCtorEq];simp
  ·obtain rfl:k=l.length:=by omega
   rfl
theorem ybtg(a b:List Int)(hl:a.length<=100000):Returns zB 164 [yx a,yx b] (.b (decide (a=b))):=by
 refine Returns.of (ydcc _ _ ?_);simp only[c164,yclv,ycjz,ycuo,ycol,yx,yjn,go_sem,zC,zG,↓reduceIte,reduceCtorEq];refine⟨fun h=>?_,fun h=>?_⟩
 ·have:a≠b:=fun e=>h (by rw[e])
  simp[this]
 have hlen:a.length=b.length:=by omega
 refine ybj (σ:=Nat) (fun k=>⟨[(13,.i .i64 k),(0,yx a),(1,yx b),(12,.i .i64 a.length)],[]⟩) (fun k=>k<=a.length/\∀j,j<k->a.getD j 0=b.getD j 0) (fun k=>a.length-k) 0 ⟨zAF _,fun j h=>absurd h (Nat.not_lt_zero _)⟩ ?_ ?_
 ·refine yj [] [] [] ?_;simp only[yx,allQ,live,yg,zAA,go_sem,zC,↓reduceIte,reduceCtorEq]
 ·intro k ⟨hk,hno⟩;simp only[ycqg,ycpu,ycwj,ycic,ycvr,ycmo,yx,yjn,clash,go_sem,zC,zG,↓reduceIte,reduceCtorEq];refine⟨fun h=>⟨by omega,by omega,fun he=>?_,fun he=>⟨ik (by omega) (by omega),?_⟩⟩,fun h=>?_⟩
  ·have:a≠b:=fun e=>he (by rw[e])
   simp[this]
  ·refine yw (k+1) ⟨by omega,fun j hj=>?_⟩ (by omega) ?_
   ·by_cases q:j<k
    ·exact hno j q
    ·obtain rfl:j=k:=by omega
     exact he
   ·refine yj [] [] [] ?_;simp only[allQ,live,yg,ybb,go_sem,zC,↓reduceIte,reduceCtorEq];simp
  ·have:a=b:=by
    refine zAG hlen fun j h1 h2=>?_;have:=hno j (by omega)
    rwa [getD_at h1,getD_at h2]at this
   simp[this]
theorem yxc (g:Gr) (v:Nat) (hv:v<g.ports.length) (h:FuncId) (cp:List SV) (acc:Int×Int->Bool) (hcp4:cp.any (owned 4)=false) (hl:(g.ports.getD v []).length<=100000)
 (hacc:∀l∈g.ports.getD v [],Returns zB h (.ag [.i .i64 l.1,.i .i64 l.2]::cp) (.b (acc l))):Returns zB 162 [grV g,.i .i64 v,.fn h [] cp] (.i .i64 (yhf acc (g.ports.getD v []))):=by
 refine Returns.of (ydbm _ _ ?_);have hcp:=ykx hcp4;simp only[c162,ycsg,ycox,grV,ybe,ybd,yx,go_sem,zC,zG,zAO,↓reduceIte,reduceCtorEq];refine⟨by omega,?_⟩
 obtain⟨ls,hls⟩:∃ls,g.ports.getD v []=ls:=⟨_,rfl⟩;rw[hls]at hl hacc ⊢;refine ybj (σ:=Nat) (fun k=>⟨[(15,.i .i64 k),(13,ybd ls),(14,.i .i64 ls.length),(2,.fn h [] cp)],[]⟩) (fun k=>k<=ls.length/\(ls.take k).findIdx? acc=none) (fun k=>ls.length-k) 0 ⟨zAF _,by simp⟩ ?_ ?_
 ·refine yj [] [] [] ?_;simp only[ybd,yfh _ hcp4,yfb _ hcp4,allQ,live,yg,zAA,go_sem,zC,↓reduceIte,reduceCtorEq]
 ·intro k ⟨hk,hno⟩;simp only[ycrf,ycjx,yctz,ycvw,ycmz,ycvy,ybd,ybb,hcp,zAL,go_sem,zC,zG,zAO,↓reduceIte,reduceCtorEq];refine⟨fun hlt=>⟨by omega,?_⟩,fun hlt=>?_⟩
  ·have hlt:k<ls.length:=by omega
   have hm:ls.getD k (0,0)∈ls:=by rw[getD_at hlt];exact zY hlt
   refine(hacc _ hm).use ?_;simp only[ybi,ybb,go_sem,zC,zG,↓reduceIte,reduceCtorEq];refine⟨fun ha=>?_,fun ha=>⟨ik (by omega) (by omega),?_⟩⟩
   ·rw[getD_at hlt]at ha
    have:ls.findIdx? acc=some k:=by
     rw[zH];refine⟨hlt,ha,fun j hj=>?_⟩;rw[zV]at hno;simp[hno ls[j] (List.mem_take_iff_getElem.2 ⟨j,by omega,rfl⟩)]
    unfold yhf;rw[this]
   ·rw[getD_at hlt]at ha;refine yw (k+1) ⟨by omega,?_⟩ (by omega) ?_
    ·rw[zI hlt,zAB,hno];simp[ha]
    ·refine yj [] [] [] ?_;simp only[yfh _ hcp4,yfb _ hcp4,allQ,live,yg,ybb,go_sem,zC,↓reduceIte,reduceCtorEq];simp
  ·obtain rfl:k=ls.length:=by omega
   rw[zW]at hno;unfold yhf;rw[hno]
end Sh
end
end Go.Proofs.YtiejahgklcjhkaaGreatDoor
