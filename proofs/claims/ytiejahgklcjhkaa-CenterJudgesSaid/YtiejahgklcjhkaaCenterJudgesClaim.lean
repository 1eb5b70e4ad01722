/- For every input, CenterJudges returns true, and its arguments read as before; no conditions. -/
import Derived.Test.YtiejahgklcjhkaaPkZx0
set_option linter.unusedSimpArgs false
set_option linter.unusedVariables false
namespace Go.Proofs.Ytiejahgklcjhkaa
open Go.ChangeShapes Go.WideShapes Go.ChangeAt Go.RowKit Go.Joins
set_option linter.unusedVariables false
set_option maxRecDepth 100000 in
theorem centerJudges_lifted(os:Os)(started:os.Started)(H:Type)(enc:TypeId×Value->H) :
 ReturnsInHanded {} Try.checked os 3 .any (Rows.centerJudgesSpec.pre6 enc Try.prog Try.f3 Rows.centerJudgesRow.domain false) (Rows.centerJudgesSpec.post enc Try.prog Try.f3 false true false false):=by
 refine returnsInHanded_of_change (C:=Try.checked) own started (by kernel_rfl) Try.func3
  (ChangeSpec.witness6 (enc:=enc) (C:=Try.checked) false ⟨#[],#[.agg #[.slice .none 0 0,.slice .none 0 0],.slice .none 0 0],[]⟩ 8 (by kernel_rfl) (by kernel_rfl) (by kernel_rfl) (by kernel_rfl)) ?_
 intro W base args ds gs before hval0 hW hcnd _;have hval:∀(j:Nat) t v,Try.f3.params[j]?=some t->args[j]?=some v->Value.okWide Try.prog W .any base t v:=hval0;have hW':=hW;obtain⟨p,q,hA0,hV,rfl,hfz,hnd⟩:=hW;have hA:DataW.TrodAll enc Try.prog W 0 (fun _=>true) true Try.f3.params.toList args.toList ds p:=hA0;rw[Try.params3]at hA hval;obtain⟨v0,vs0,d0,ds0,p0,q0,hargs,rfl,rfl,h0,r0⟩:=trodAll_cons hA;obtain⟨v1,vs1,d1,ds1,p1,q1,rfl,rfl,rfl,h1,r1⟩:=trodAll_cons r0
 obtain⟨rfl,rfl,rfl⟩:=trodAll_nil r1;obtain rfl:args = #[v0,v1]:=by cases args;simp_all
 obtain⟨rfl,rfl⟩:=trodVars_none hV;have k0:=h0;have k1:=h1;have lt0:∀x∈p0,x.block<W.heap.size:=by obtain⟨m,hm⟩:=k0;exact DataW.trod_lt m _ _ _ hm
 have lt1:∀x∈p1,x.block<W.heap.size:=by obtain⟨m,hm⟩:=k1;exact DataW.trod_lt m _ _ _ hm
 obtain⟨g0,e0,y0,z0,n0,rfl,rfl,rfl,t0,s0⟩:=open_agg2 Try.underlying25 (by kernel_rfl) (by kernel_rfl) (hval 0 25 v0 rfl rfl) h0
 obtain⟨ids0,idsI0,u0,a0,rr0⟩:=Sh.ybgd t0;obtain⟨ports0,portsI0,uu0,aa0,rs0⟩:=Sh.yxd s0;obtain⟨m1,hm1⟩:=h1;obtain⟨A1,len1,cap1,rfl⟩:=okWide_slice Try.underlying26 (hval 1 26 v1 rfl rfl);obtain⟨x1,hx1,u1,a1,rr1⟩:=Sh.ybdq (v:=.slice A1 len1 cap1) hm1
 clear hA0 hval0
 have ha:Sh.RVL (Sh.memW W).b.get Sh.om0 [Sh.grV ⟨ids0,ports0⟩,Sh.ycb x1] [.agg [u0,uu0].toArray,u1]:=.cons (.ag (.cons rr0 (.cons rs0 .nil))) (.cons rr1 .nil);have hv:Ev.VRL (Sh.phiW W) [.agg [u0,uu0].toArray,u1] [.agg #[g0,e0],.slice A1 len1 cap1]:=.cons (.agg (a:=[u0,uu0]) (a':=[g0,e0]) (.cons (Sh.yqe a0) (.cons (Sh.yqe aa0) .nil))) (.cons (Sh.yqe a1) .nil);refine(Sh.ybco (Sh.yll (g:=⟨ids0,ports0⟩) ⟨idsI0,portsI0⟩ hx1) ⟨_,_,Try.func3,rfl⟩ Ev.ybcb (fun x hx=>by cases hx) ha hv).mono fun e W' ⟨he,bel⟩=>?_
 subst he;exact⟨_,rfl,_,_,_,[],_,[],hW',trodAll_mk1 (shut_bool Try.underlying4 _),(trodAll_cons_mk (Below.trod laidOut (by kernel_rfl) (of_decide_eq_true (by kernel_rfl)) k0 bel lt0) (trodAll_cons_mk (Below.trod laidOut (by kernel_rfl) (of_decide_eq_true (by kernel_rfl)) k1 bel lt1) trodAll_mk0)),rfl,bel.frame _,fun h=>by cases h⟩
theorem centerJudges_over:Rows.centerJudgesRow.holds Try.pinned (OpenSpec.ofChange Rows.centerJudgesSpec) :=
 OpenClaim.holds_of_wide 3 Try.f3 rfl rfl rfl rfl rfl rfl rfl ⟨rfl,rfl,rfl,rfl,rfl⟩ rfl rfl rfl rfl rfl (by kernel_rfl) Try.func3 (by kernel_rfl)
  (of_decide_eq_true (by kernel_rfl)) (by unfold Func.isWrapper;first|(rw[if_pos (by decide +kernel)];kernel_rfl)|(rw[if_neg (by decide +kernel)];exact⟨rfl,rfl⟩))
  (fun os started H enc _=>centerJudges_lifted os started H enc)
theorem centerJudges_holds:Rows.CenterJudgesSaid:=centerJudges_over
#print axioms centerJudges_holds
end Go.Proofs.Ytiejahgklcjhkaa
