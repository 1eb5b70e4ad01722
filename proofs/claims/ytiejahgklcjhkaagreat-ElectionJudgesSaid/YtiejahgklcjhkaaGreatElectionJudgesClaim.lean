/- For every input, ElectionJudges returns true, and its arguments read as before; no conditions. -/
import Derived.Test.YtiejahgklcjhkaaGreatPkXx0
import Derived.Test.YtiejahgklcjhkaaGreatPkX15
set_option linter.unusedSimpArgs false
set_option linter.unusedVariables false
namespace Go.Proofs.YtiejahgklcjhkaaGreat
open Go.ChangeShapes Go.WideShapes Go.ChangeAt Go.RowKit Go.Joins
set_option linter.unusedVariables false
set_option maxRecDepth 100000 in
theorem electionJudges_lifted(os:Os)(started:os.Started)(H:Type)(enc:TypeId×Value->H) :
 ReturnsInHanded {} Tryz.checked os 3 .any (Rows.electionJudgesSpec.pre6 enc Tryz.prog Tryz.f3 Rows.electionJudgesRow.domain false) (Rows.electionJudgesSpec.post enc Tryz.prog Tryz.f3 false true false false):=by
 refine returnsInHanded_of_change (C:=Tryz.checked) own started (by kernel_rfl) Tryz.func3
  (ChangeSpec.witness6 (enc:=enc) (C:=Tryz.checked) false ⟨#[],#[.agg #[.slice .none 0 0,.slice .none 0 0],.slice .none 0 0],[]⟩ 8 (by kernel_rfl) (by kernel_rfl) (by kernel_rfl) (by kernel_rfl)) ?_
 intro W base args ds gs before hval0 hW hcnd _;have hval:∀(j:Nat) t v,Tryz.f3.params[j]?=some t->args[j]?=some v->Value.okWide Tryz.prog W .any base t v:=hval0;have hW':=hW;obtain⟨p,q,hA0,hV,rfl,hfz,hnd⟩:=hW;have hA:DataW.TrodAll enc Tryz.prog W 0 (fun _=>true) true Tryz.f3.params.toList args.toList ds p:=hA0;rw[Tryz.params3]at hA hval;obtain⟨v0,vs0,d0,ds0,p0,q0,hargs,rfl,rfl,h0,r0⟩:=trodAll_cons hA
 obtain⟨v1,vs1,d1,ds1,p1,q1,rfl,rfl,rfl,h1,r1⟩:=trodAll_cons r0;obtain⟨rfl,rfl,rfl⟩:=trodAll_nil r1;obtain rfl:args = #[v0,v1]:=by cases args;simp_all
 obtain⟨rfl,rfl⟩:=trodVars_none hV;have k0:=h0;have k1:=h1;have lt0:∀x∈p0,x.block<W.heap.size:=by obtain⟨m,hm⟩:=k0;exact DataW.trod_lt m _ _ _ hm
 have lt1:∀x∈p1,x.block<W.heap.size:=by obtain⟨m,hm⟩:=k1;exact DataW.trod_lt m _ _ _ hm
 obtain⟨g0,e0,y0,z0,n0,rfl,rfl,rfl,t0,s0⟩:=open_agg2 Tryz.underlying25 (by kernel_rfl) (by kernel_rfl) (hval 0 25 v0 rfl rfl) h0
 obtain⟨ids0,idsI0,u0,a0,rr0⟩:=Sh.ybii t0;obtain⟨ports0,portsI0,uu0,aa0,rs0⟩:=Sh.ybaj s0;obtain⟨m1,hm1⟩:=h1;obtain⟨A1,len1,cap1,rfl⟩:=okWide_slice Tryz.underlying26 (hval 1 26 v1 rfl rfl);obtain⟨x1,hx1,u1,a1,rr1⟩:=Sh.ybfi (v:=.slice A1 len1 cap1) hm1
 clear hA0 hval0
 have ha:Sh.RVL (Sh.memW W).b.get Sh.om0 [Sh.grV ⟨ids0,ports0⟩,Sh.ycn x1] [.agg [u0,uu0].toArray,u1]:=.cons (.ag (.cons rr0 (.cons rs0 .nil))) (.cons rr1 .nil);have hv:Ev.VRL (Sh.phiW W) [.agg [u0,uu0].toArray,u1] [.agg #[g0,e0],.slice A1 len1 cap1]:=.cons (.agg (a:=[u0,uu0]) (a':=[g0,e0]) (.cons (Sh.ysq a0) (.cons (Sh.ysq aa0) .nil))) (.cons (Sh.ysq a1) .nil);refine(Sh.ybev (Sh.ykj (g:=⟨ids0,ports0⟩) ⟨idsI0,portsI0⟩ hx1) ⟨_,_,Tryz.func3,rfl⟩ Ev.ypq (fun x hx=>by cases hx) ha hv).mono fun e W' ⟨he,bel⟩=>?_
 subst he;exact⟨_,rfl,_,_,_,[],_,[],hW',trodAll_mk1 (shut_bool Tryz.underlying4 _),(trodAll_cons_mk (Below.trod laidOut (by kernel_rfl) (of_decide_eq_true (by kernel_rfl)) k0 bel lt0) (trodAll_cons_mk (Below.trod laidOut (by kernel_rfl) (of_decide_eq_true (by kernel_rfl)) k1 bel lt1) trodAll_mk0)),rfl,bel.frame _,fun h=>by cases h⟩
theorem electionJudges_over:Rows.electionJudgesRow.holds Tryz.pinned (OpenSpec.ofChange Rows.electionJudgesSpec) :=
 OpenClaim.holds_of_wide 3 Tryz.f3 rfl rfl rfl rfl rfl rfl rfl ⟨rfl,rfl,rfl,rfl,rfl⟩ rfl rfl rfl rfl rfl (by kernel_rfl) Tryz.func3 (by kernel_rfl)
  (of_decide_eq_true (by kernel_rfl)) (by unfold Func.isWrapper;first|(rw[if_pos (by decide +kernel)];kernel_rfl)|(rw[if_neg (by decide +kernel)];exact⟨rfl,rfl⟩))
  (fun os started H enc _=>electionJudges_lifted os started H enc)
theorem electionJudges_holds:Rows.ElectionJudgesSaid:=electionJudges_over
#print axioms electionJudges_holds
end Go.Proofs.YtiejahgklcjhkaaGreat
