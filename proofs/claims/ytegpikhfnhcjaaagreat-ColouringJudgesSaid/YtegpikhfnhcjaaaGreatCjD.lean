/- Walks of the reference 32: Conflicts, Legit. -/
import Derived.Test.YtegpikhfnhcjaaaGreatCjC
namespace Go.Proofs.YtegpikhfnhcjaaaGreat
open Go.RowKit

theorem hb_refFitC : HasBody Tryz.prog 7 := ⟨_, Tryz.func7, by kernel_rfl, by kernel_rfl⟩
theorem hb_VarsC : HasBody Tryz.prog 23 := ⟨_, Tryz.func23, by kernel_rfl, by kernel_rfl⟩
theorem hb_ConfigC : HasBody Tryz.prog 22 := ⟨_, Tryz.func22, by kernel_rfl, by kernel_rfl⟩
theorem hb_refConf : HasBody Tryz.prog 13 := ⟨_, Tryz.func13, by kernel_rfl, by kernel_rfl⟩
section
variable {ops : Array Oper} {Q : Exit → Act → World → Prop} {l : List Value} {ds : List Deferred} {w : World} {i d : Nat} {σ : List (Nat × Bool)} {o : Oper}
theorem exec_eqlU {ρ : Operand → Value} {x y : Operand} {t' : TypeId} {a b : Int} {w : World} (hop : o.op = .binOp .eql 33 x y t') (hx : ρ x = .int .u32 a) (hy : ρ y = .int .u32 b) :
    (execOp ρ o).run Tryz.prog w = .ok (.value (.bool (a == b))) w := by
  unfold execOp
  rw [hop]
  simp [hx, hy, go_sem]
theorem Seq.eqlU {S : World → Prop} {x y : Operand} {t' : TypeId} {a b : Int} (ho : ops[i]? = some o) (hop : o.op = .binOp .eql 33 x y t') (hd : o.dst = some d) (hw : wantedL ops o l = true) (hx : evalL l x = .int .u32 a) (hy : evalL l y = .int .u32 b) (hS : S w)
    (h : Seq Tryz.prog ops Q S σ ⟨(l.set d (.bool (a == b))).toArray, ds⟩ w) : Seq Tryz.prog ops Q S ((i, true) :: σ) ⟨l.toArray, ds⟩ w :=
  Seq.yield _ ho hd hw hS (fun _ _ => exec_eqlU hop hx hy) h
end
theorem flatAt_snoc : ∀ (ps : List (List (Int × Int))) (v : Nat) (ls : List (Int × Int)), Ev.flatAt v (ps ++ [ls]) = Ev.flatAt v ps ++ ls.map (fun x => ⟨v + ps.length, x.1, x.2⟩)
  | [], v, ls => by simp [Ev.flatAt]
  | l :: ps, v, ls => by simp [Ev.flatAt, flatAt_snoc ps (v + 1) ls, Nat.add_assoc, Nat.add_comm 1]
def rowEls (v : Nat) (ls : List (Int × Int)) : List Ev.El := ls.map (fun x => ⟨v, x.1, x.2⟩)
/-- The set after the first v nodes. -/
def confTo (g : Gr) (c : Conf) (v : Nat) : Nat := (Ev.flatAt 0 (g.ports.take v)).foldl (cstep c) 0
def confIn (g : Gr) (c : Conf) (v : Nat) (ls : List (Int × Int)) (k : Nat) : Nat := (rowEls v (ls.take k)).foldl (cstep c) (confTo g c v)
theorem confTo_succ {g : Gr} {c : Conf} {v : Nat} {ls : List (Int × Int)} (h : g.ports[v]? = some ls) : confTo g c (v + 1) = confIn g c v ls ls.length := by
  have hl : v < g.ports.length := (List.getElem?_eq_some_iff.1 h).1
  have e : g.ports[v] = ls := by rw [List.getElem?_eq_getElem hl] at h; exact Option.some.inj h
  unfold confTo confIn
  rw [List.take_length, List.take_succ_eq_append_getElem hl, flatAt_snoc, List.foldl_append, e]
  simp [rowEls, confTo, Nat.min_eq_left (Nat.le_of_lt hl)]
theorem confIn_succ {g : Gr} {c : Conf} {v : Nat} {ls : List (Int × Int)} {k : Nat} {x : Int × Int} (h : ls[k]? = some x) : confIn g c v ls (k + 1) = cstep c (confIn g c v ls k) ⟨v, x.1, x.2⟩ := by
  have hl : k < ls.length := (List.getElem?_eq_some_iff.1 h).1
  have e : ls[k] = x := by rw [List.getElem?_eq_getElem hl] at h; exact Option.some.inj h
  unfold confIn
  rw [List.take_succ_eq_append_getElem hl]
  unfold rowEls
  rw [List.map_append, List.foldl_append, e]
  rfl
theorem mem_flatAt : ∀ (ps : List (List (Int × Int))) (b v : Nat) (ls : List (Int × Int)) (x : Int × Int), ps[v]? = some ls → x ∈ ls → (⟨b + v, x.1, x.2⟩ : Ev.El) ∈ Ev.flatAt b ps
  | [], _, _, _, _, h, _ => by simp at h
  | l :: ps, b, 0, ls, x, h, hx => by
    simp at h; subst h
    unfold Ev.flatAt
    exact List.mem_append_left _ (List.mem_map.2 ⟨x, hx, by simp⟩)
  | l :: ps, b, v + 1, ls, x, h, hx => by
    unfold Ev.flatAt
    have := mem_flatAt ps (b + 1) v ls x (by simpa using h) hx
    rw [show b + (v + 1) = b + 1 + v by omega]
    exact List.mem_append_right _ this
theorem flatAt_take_lt {g : Gr} {c : Conf} (h : colConfB g c = true) (v : Nat) : ∀ x ∈ Ev.flatAt 0 (g.ports.take v), x.v < 24 := by
  intro x hx
  obtain ⟨k, ls, h1, h2, h3⟩ := flatAt_mem _ 0 x hx
  have hk : g.ports[k]? = some ls := by
    rw [List.getElem?_take] at h1
    split at h1
    · exact h1
    · cases h1
  have := mem_flatAt g.ports 0 k ls (x.a, x.b) hk h3
  have hh := (link_ends h this).1
  simp at hh h2
  omega
theorem confTo_lt {g : Gr} {c : Conf} (h : colConfB g c = true) (v : Nat) : confTo g c v < 2 ^ 24 := cfold_lt c _ _ (by omega) (flatAt_take_lt h v)
theorem confIn_lt {g : Gr} {c : Conf} (h : colConfB g c = true) {v : Nat} (hv : v < 24) (ls : List (Int × Int)) (k : Nat) : confIn g c v ls k < 2 ^ 24 :=
  cfold_lt c _ _ (confTo_lt h v) (fun x hx => by obtain ⟨y, _, rfl⟩ := List.mem_map.1 hx; exact hv)

set_option maxHeartbeats 4000000 in
theorem refConflictsC_any (gv cv : Value) (g : Gr) (c : Conf) (w : World) (hg : GrAt w gv g) (hc : RowsAt w cv c) :
    Calls Tryz.prog 13 #[gv, cv] w fun e w' => e = .returned (.int .u32 (colConf g c)) ∧ Below w.heap.size w w' := by
  have hg0 := Lib.hid hg
  have hc0 := Lib.hid hc
  obtain ⟨i, p, rfl, hi, hp⟩ := hg
  have Hp := Lib.hid hp
  have Hpf := Lib.hid (slAt_form hp)
  have Hcf := Lib.hid (slAt_form hc)
  clear hi hp hc
  have HS := Lib.hid (BoxS.start w i p 25)
  cases hcn : validB g with
  | false =>
    have Hf := Lib.hid (show colConf g c = 0 by unfold colConf colConfB; rw [hcn]; rfl)
    go_enter Tryz.func13, Tryz.ntmps13
    go_wp2
    have hS := HS.out
    refine wp_region_plan mixed [(0, true), (1, false), (2, true), (3, true), (4, true), (5, true), (6, true), (7, true), (8, true), (9, true)] (BoxS w i p) (by kernel_rfl) (fun _ d _ _ _ h => by cases d <;> exact h) rfl (by kernel_rfl) ?_
    refine Seq.loadG rfl rfl rfl rfl rfl hS ?_
    refine Seq.call #[.agg #[i, p]] rfl rfl rfl rfl hb_refFitC rfl ?_
    refine (boolv (refFitC_any _ g _ (hg0.out.below hS.2.2)) hcn).mono ?_
    rintro e w1 ⟨rfl, hb1⟩
    refine ⟨_, rfl, hS.calls hb1, ?_⟩
    replace hS := hS.calls hb1
    refine Seq.not_ rfl rfl rfl rfl rfl hS ?_
    refine Seq.move rfl rfl rfl rfl rfl hS ?_
    refine Seq.skip rfl rfl rfl hS ?_
    refine Seq.skip rfl rfl rfl hS ?_
    refine Seq.skip rfl rfl rfl hS ?_
    refine Seq.skip rfl rfl rfl hS ?_
    refine Seq.skip rfl rfl rfl hS ?_
    refine Seq.pick rfl rfl rfl rfl rfl rfl hS ?_
    refine Seq.done ?_
    simp only [List.set_cons_zero, List.set_cons_succ]
    have HSS := Lib.hid hS
    clear hS
    go_wp2
    go_ret
    exact ⟨by rw [Hf.out]; rfl, HSS.out.2.2⟩
  | true =>
    cases hrc : refConfB g c colVars with
    | false =>
      have Hf := Lib.hid (show colConf g c = 0 by unfold colConf; rw [← confC_eq, hcn, hrc]; rfl)
      go_enter Tryz.func13, Tryz.ntmps13
      go_wp2
      have hS := HS.out
      refine wp_region_plan mixed [(0, true), (1, false), (2, true), (3, true), (4, true), (5, true), (6, false), (7, false), (8, true), (9, true)] (BoxS w i p) (by kernel_rfl) (fun _ d _ _ _ h => by cases d <;> exact h) rfl (by kernel_rfl) ?_
      refine Seq.loadG rfl rfl rfl rfl rfl hS ?_
      refine Seq.call #[.agg #[i, p]] rfl rfl rfl rfl hb_refFitC rfl ?_
      refine (boolv (refFitC_any _ g _ (hg0.out.below hS.2.2)) hcn).mono ?_
      rintro e w1 ⟨rfl, hb1⟩
      refine ⟨_, rfl, hS.calls hb1, ?_⟩
      replace hS := hS.calls hb1
      refine Seq.not_ rfl rfl rfl rfl rfl hS ?_
      refine Seq.move rfl rfl rfl rfl rfl hS ?_
      refine Seq.loadG rfl rfl rfl rfl rfl hS ?_
      refine Seq.move rfl rfl rfl rfl rfl hS ?_
      refine Seq.call #[] rfl rfl rfl rfl hb_VarsC rfl ?_
      refine (VarsC_any _).mono ?_
      rintro e w2 ⟨vv, rfl, hvv, hb2⟩
      refine ⟨_, rfl, hS.calls hb2, ?_⟩
      replace hS := hS.calls hb2
      refine Seq.call #[.agg #[i, p], cv, vv] rfl rfl rfl rfl hb_ConfigC rfl ?_
      refine (boolv (Config_any _ _ _ g c colVars _ (hg0.out.below hS.2.2) (hc0.out.below (Stable.sl Stable.int) hS.2.2) hvv colVars_fit) hrc).mono ?_
      rintro e w3 ⟨rfl, hb3⟩
      refine ⟨_, rfl, hS.calls hb3, ?_⟩
      replace hS := hS.calls hb3
      refine Seq.not_ rfl rfl rfl rfl rfl hS ?_
      refine Seq.pick rfl rfl rfl rfl rfl rfl hS ?_
      refine Seq.done ?_
      simp only [List.set_cons_zero, List.set_cons_succ]
      have HSS := Lib.hid hS
      clear hS
      go_wp2
      go_ret
      exact ⟨by rw [Hf.out]; rfl, HSS.out.2.2⟩
    | true =>
      have Hcb := Lib.hid (show colConfB g c = true by rw [← confC_eq, hcn, hrc]; rfl)
      have Hn := Lib.hid (show c.length = g.ports.length from ((confB_iff _ _ _).1 (Bool.and_eq_true _ _ ▸ Hcb.out).2).1)
      have hn24 : c.length ≤ 24 := by rw [Hn.out]; exact ((validB_iff g).1 hcn).2.1
      have Hf := Lib.hid (show colConf g c = confTo g c c.length by unfold colConf confTo confN; rw [Hcb.out, Hn.out, List.take_length]; rfl)
      go_enter Tryz.func13, Tryz.ntmps13
      go_wp2
      have hS := HS.out
      refine wp_region_plan mixed [(0, true), (1, false), (2, true), (3, true), (4, true), (5, true), (6, false), (7, false), (8, true), (9, true)] (BoxS w i p) (by kernel_rfl) (fun _ d _ _ _ h => by cases d <;> exact h) rfl (by kernel_rfl) ?_
      refine Seq.loadG rfl rfl rfl rfl rfl hS ?_
      refine Seq.call #[.agg #[i, p]] rfl rfl rfl rfl hb_refFitC rfl ?_
      refine (boolv (refFitC_any _ g _ (hg0.out.below hS.2.2)) hcn).mono ?_
      rintro e w1 ⟨rfl, hb1⟩
      refine ⟨_, rfl, hS.calls hb1, ?_⟩
      replace hS := hS.calls hb1
      refine Seq.not_ rfl rfl rfl rfl rfl hS ?_
      refine Seq.move rfl rfl rfl rfl rfl hS ?_
      refine Seq.loadG rfl rfl rfl rfl rfl hS ?_
      refine Seq.move rfl rfl rfl rfl rfl hS ?_
      refine Seq.call #[] rfl rfl rfl rfl hb_VarsC rfl ?_
      refine (VarsC_any _).mono ?_
      rintro e w2 ⟨vv, rfl, hvv, hb2⟩
      refine ⟨_, rfl, hS.calls hb2, ?_⟩
      replace hS := hS.calls hb2
      refine Seq.call #[.agg #[i, p], cv, vv] rfl rfl rfl rfl hb_ConfigC rfl ?_
      refine (boolv (Config_any _ _ _ g c colVars _ (hg0.out.below hS.2.2) (hc0.out.below (Stable.sl Stable.int) hS.2.2) hvv colVars_fit) hrc).mono ?_
      rintro e w3 ⟨rfl, hb3⟩
      refine ⟨_, rfl, hS.calls hb3, ?_⟩
      replace hS := hS.calls hb3
      refine Seq.not_ rfl rfl rfl rfl rfl hS ?_
      refine Seq.pick rfl rfl rfl rfl rfl rfl hS ?_
      refine Seq.done ?_
      simp only [List.set_cons_zero, List.set_cons_succ]
      have HSS := Lib.hid hS
      clear hS
      obtain ⟨A2, c2, rfl, hB1, hB2⟩ := Hpf.out
      obtain ⟨A3, c3, rfl, hC1, hC2⟩ := Hcf.out
      have q1 := HSS.out.2.1
      have Hbw3 := Lib.hid HSS.out.2.2
      clear HSS HS
      go_wp2
      go_loopg [5, 6] c.length (fun q t5 t6 wr => ∃ v : Nat, q + v = c.length ∧ t5 = .int .u32 (confTo g c v : Nat) ∧ t6 = .int .i64 v ∧ Hid (Below w3.heap.size w3 wr))
      case atStart => exact ⟨0, by omega, rfl, rfl, Lib.hid (Below.refl _ _)⟩
      case round =>
        obtain ⟨v, hq, rfl, rfl, hbel⟩ := hrel
        have Hbw := Lib.hid (Hbw3.out.trans (hbel.out.mono Hbw3.out.size))
        have p1 := keepCells hbel.out _ _ q1
        by_cases hlt : v < c.length
        · have hvp : v < g.ports.length := by rw [← Hn.out]; exact hlt
          obtain ⟨ls, hls⟩ : ∃ ls, g.ports[v] = ls := ⟨_, rfl⟩
          have hls? : g.ports[v]? = some ls := by rw [List.getElem?_eq_getElem hvp, hls]
          obtain ⟨b7, o7, lv, rfl, hb7, hc70, hl7⟩ := rowsAt_at Hp.out hls?
          obtain ⟨A8, c8, rfl, hF1, hF2, hL8⟩ := hl7
          have Hc70 := Lib.hid hc70
          have hc7 := keepCells Hbw.out _ _ hc70
          have HL8 := Lib.hid hL8
          have Hls := Lib.hid hls?
          have Hsuc := Lib.hid (confTo_succ (c := c) hls?)
          clear hls hls? hL8 hc70
          go_wp2
          obtain ⟨go, rfl⟩ : ∃ go, go = gk := ⟨_, rfl⟩
          go_loopg [5, 7] ls.length (fun q t5 t7 wr => ∃ k : Nat, q + k = ls.length ∧ t5 = .int .u32 (confIn g c v ls k : Nat) ∧ t7 = .int .i64 k ∧ Hid (Below w3.heap.size w3 wr))
          case atStart => exact ⟨0, by omega, rfl, rfl, hbel⟩
          case round =>
            clear hbel Hbw hc7 p1
            obtain ⟨k, hqk, rfl, rfl, hbel⟩ := hrel
            have Hbw := Lib.hid (Hbw3.out.trans (hbel.out.mono Hbw3.out.size))
            have p1 := keepCells hbel.out _ _ q1
            have hc7 := keepCells Hbw.out _ _ Hc70.out
            by_cases hk : k < ls.length
            · obtain ⟨b9, o9, rfl, hb9, hE⟩ := HL8.out (by omega)
              obtain ⟨x, hx⟩ : ∃ x, ls[k] = x := ⟨_, rfl⟩
              have hx? : ls[k]? = some x := by rw [List.getElem?_eq_getElem hk, hx]
              obtain ⟨e1, e2, ⟨hw1, hw1'⟩, _⟩ := hE k x hx?
              have Hin := Lib.hid (confIn_succ (g := g) (c := c) (v := v) hx?)
              have Hlt := Lib.hid (confIn_lt (g := g) Hcb.out (show v < 24 by omega) ls k)
              have hmem := mem_flatAt g.ports 0 v ls x Hls.out (List.mem_of_getElem? hx?)
              obtain ⟨_, ⟨y, hy⟩, hxa, z, hz⟩ := link_ends Hcb.out hmem
              simp only [Nat.zero_add] at hy hz hxa
              have Hcbit := Lib.hid (show cbit c ⟨v, x.1, x.2⟩ = (y == z) by simp [cbit, List.getD, hy, hz])
              obtain ⟨x1, x2⟩ := x
              obtain ⟨xn, hxn⟩ := Int.eq_ofNat_of_zero_le hxa
              simp only at hxn hz e1 Hcbit Hin hw1 hw1'
              subst hxn
              simp only [Int.toNat_natCast] at hz e1 Hcbit Hin hw1 hw1'
              obtain ⟨b3, o3, sv, e3, hb3, hcs, hs⟩ := rowsAt_at hc0.out hy
              obtain ⟨b3', o3', sz, e3', hb3', hcz, hsz'⟩ := rowsAt_at hc0.out hz
              cases e3
              cases e3'
              obtain ⟨b4, o4, c4, rfl, hb4, _, _, hc4, _⟩ := IntsAt.at_ (xs := [y]) hs (k := 0) (by simp)
              obtain ⟨b5, o5, c5, rfl, hb5, _, _, hc5, _⟩ := IntsAt.at_ (xs := [z]) hsz' (k := 0) (by simp)
              have hzl : xn < c.length := (List.getElem?_eq_some_iff.1 hz).1
              have k1 := keepCells Hbw.out _ _ hcs
              have k2 := keepCells Hbw.out _ _ hcz
              have k3 := keepCells Hbw.out _ _ hc4
              have k4 := keepCells Hbw.out _ _ hc5
              have k5 := keepCells Hbw.out _ _ e1
              simp only [List.getElem_cons_zero, Nat.add_zero] at k3 k4
              clear hs hsz' hy hz hcs hcz hc4 hc5 e1 e2 hE hmem hx hx?
              cases hyz : (z == y) with
              | false =>
                go_wp2
                go_quiet (fail)
                go_wp2
                go_roundg (gk - 1)
                case measure => omega
                case rel =>
                  refine ⟨k + 1, by omega, ?_, by go_num, Lib.hid (below_drewN hbel.out _)⟩
                  have hyz' : (y == z) = false := by rw [← hyz, Bool.beq_comm]
                  rw [Hin.out, cstep, Hcbit.out, hyz']
                  rfl
              | true =>
                go_wp2
                go_quiet (fail)
                go_wp2
                go_roundg (gk - 1)
                case measure => omega
                case rel =>
                  refine ⟨k + 1, by omega, ?_, by go_num, Lib.hid (below_drewN hbel.out _)⟩
                  have hyz' : (y == z) = true := by rw [← hyz, Bool.beq_comm]
                  rw [Hin.out, cstep, Hcbit.out, hyz']
                  have h2 : (2 : Nat) ^ v < 2 ^ 24 := Nat.pow_lt_pow_right (by omega) (by omega)
                  have h3 := bits_or_u32_nat (confIn g c v ls k) (2 ^ v) (by have := Hlt.out; omega) (by omega)
                  have e1 : (2 : Int) ^ v = ((2 ^ v : Nat) : Int) := by simp
                  rw [e1]
                  generalize 2 ^ v = P at h2 h3 ⊢
                  rw [Int.emod_eq_of_lt (by omega) (by omega), h3]
                  rfl
            · obtain rfl : k = ls.length := by omega
              go_wp2
              go_roundg (go - 1)
              case measure => omega
              case rel => exact ⟨v + 1, by omega, by rw [Hsuc.out], by go_num, hbel⟩
        · obtain rfl : v = c.length := by omega
          go_wp2
          go_ret
          refine ⟨?_, Hbw.out⟩
          rw [Hf.out]
          rfl

set_option maxHeartbeats 4000000 in
theorem refLegitC_any (gv cv : Value) (g : Gr) (c : Conf) (w : World) (hg : GrAt w gv g) (hc : RowsAt w cv c) :
    Calls Tryz.prog 9 #[gv, cv] w fun e w' => e = .returned (.bool (colLegitB g c)) ∧ Below w.heap.size w w' := by
  have hg0 := Lib.hid hg
  have hc0 := Lib.hid hc
  obtain ⟨i, p, rfl, hi, hp⟩ := hg
  clear hi hp hc
  have HS := Lib.hid (BoxS.start w i p 25)
  cases hcn : validB g with
  | false =>
    have Hf := Lib.hid (show colLegitB g c = false by unfold colLegitB colConfB; rw [hcn]; rfl)
    go_enter Tryz.func9, Tryz.ntmps9
    go_wp2
    have hS := HS.out
    refine wp_region_plan mixed [(0, true), (1, false), (2, true), (3, true), (4, true), (5, true), (6, true), (7, true), (8, true), (9, true), (10, true), (11, true), (12, true), (13, true), (14, true)] (BoxS w i p) (by kernel_rfl) (fun _ d _ _ _ h => by cases d <;> exact h) rfl (by kernel_rfl) ?_
    refine Seq.loadG rfl rfl rfl rfl rfl hS ?_
    refine Seq.call #[.agg #[i, p]] rfl rfl rfl rfl hb_refFitC rfl ?_
    refine (boolv (refFitC_any _ g _ (hg0.out.below hS.2.2)) hcn).mono ?_
    rintro e w1 ⟨rfl, hb1⟩
    refine ⟨_, rfl, hS.calls hb1, ?_⟩
    replace hS := hS.calls hb1
    refine Seq.move rfl rfl rfl rfl rfl hS ?_
    refine Seq.skip rfl rfl rfl hS ?_
    refine Seq.skip rfl rfl rfl hS ?_
    refine Seq.skip rfl rfl rfl hS ?_
    refine Seq.skip rfl rfl rfl hS ?_
    refine Seq.pick rfl rfl rfl rfl rfl rfl hS ?_
    refine Seq.move rfl rfl rfl rfl rfl hS ?_
    refine Seq.skip rfl rfl rfl hS ?_
    refine Seq.skip rfl rfl rfl hS ?_
    refine Seq.skip rfl rfl rfl hS ?_
    refine Seq.skip rfl rfl rfl hS ?_
    refine Seq.pick rfl rfl rfl rfl rfl rfl hS ?_
    refine Seq.assign rfl rfl rfl rfl rfl hS ?_
    refine Seq.done ?_
    simp only [List.set_cons_zero, List.set_cons_succ]
    have HSS := Lib.hid hS
    clear hS
    go_wp2
    go_ret
    exact ⟨ret_bool Hf.out.symm, HSS.out.2.2⟩
  | true =>
    cases hrc : refConfB g c colVars with
    | false =>
      have Hf := Lib.hid (show colLegitB g c = false by unfold colLegitB; rw [← confC_eq, hcn, hrc]; rfl)
      go_enter Tryz.func9, Tryz.ntmps9
      go_wp2
      have hS := HS.out
      refine wp_region_plan mixed [(0, true), (1, false), (2, true), (3, true), (4, true), (5, false), (6, false), (7, true), (8, true), (9, true), (10, true), (11, true), (12, true), (13, true), (14, true)] (BoxS w i p) (by kernel_rfl) (fun _ d _ _ _ h => by cases d <;> exact h) rfl (by kernel_rfl) ?_
      refine Seq.loadG rfl rfl rfl rfl rfl hS ?_
      refine Seq.call #[.agg #[i, p]] rfl rfl rfl rfl hb_refFitC rfl ?_
      refine (boolv (refFitC_any _ g _ (hg0.out.below hS.2.2)) hcn).mono ?_
      rintro e w1 ⟨rfl, hb1⟩
      refine ⟨_, rfl, hS.calls hb1, ?_⟩
      replace hS := hS.calls hb1
      refine Seq.move rfl rfl rfl rfl rfl hS ?_
      refine Seq.loadG rfl rfl rfl rfl rfl hS ?_
      refine Seq.move rfl rfl rfl rfl rfl hS ?_
      refine Seq.call #[] rfl rfl rfl rfl hb_VarsC rfl ?_
      refine (VarsC_any _).mono ?_
      rintro e w2 ⟨vv, rfl, hvv, hb2⟩
      refine ⟨_, rfl, hS.calls hb2, ?_⟩
      replace hS := hS.calls hb2
      refine Seq.call #[.agg #[i, p], cv, vv] rfl rfl rfl rfl hb_ConfigC rfl ?_
      refine (boolv (Config_any _ _ _ g c colVars _ (hg0.out.below hS.2.2) (hc0.out.below (Stable.sl Stable.int) hS.2.2) hvv colVars_fit) hrc).mono ?_
      rintro e w3 ⟨rfl, hb3⟩
      refine ⟨_, rfl, hS.calls hb3, ?_⟩
      replace hS := hS.calls hb3
      refine Seq.pick rfl rfl rfl rfl rfl rfl hS ?_
      refine Seq.move rfl rfl rfl rfl rfl hS ?_
      refine Seq.skip rfl rfl rfl hS ?_
      refine Seq.skip rfl rfl rfl hS ?_
      refine Seq.skip rfl rfl rfl hS ?_
      refine Seq.skip rfl rfl rfl hS ?_
      refine Seq.pick rfl rfl rfl rfl rfl rfl hS ?_
      refine Seq.assign rfl rfl rfl rfl rfl hS ?_
      refine Seq.done ?_
      simp only [List.set_cons_zero, List.set_cons_succ]
      have HSS := Lib.hid hS
      clear hS
      go_wp2
      go_ret
      exact ⟨ret_bool Hf.out.symm, HSS.out.2.2⟩
    | true =>
      have Hf := Lib.hid (show colLegitB g c = ((colConf g c : Int) == 0) by unfold colLegitB colConf; rw [← confC_eq, hcn, hrc]; simp only [Bool.and_self, Bool.true_and, if_true]; rw [Bool.eq_iff_iff]; simp)
      go_enter Tryz.func9, Tryz.ntmps9
      go_wp2
      have hS := HS.out
      refine wp_region_plan mixed [(0, true), (1, false), (2, true), (3, true), (4, true), (5, false), (6, false), (7, true), (8, true), (9, true), (10, true), (11, false), (12, true), (13, true), (14, true)] (BoxS w i p) (by kernel_rfl) (fun _ d _ _ _ h => by cases d <;> exact h) rfl (by kernel_rfl) ?_
      refine Seq.loadG rfl rfl rfl rfl rfl hS ?_
      refine Seq.call #[.agg #[i, p]] rfl rfl rfl rfl hb_refFitC rfl ?_
      refine (boolv (refFitC_any _ g _ (hg0.out.below hS.2.2)) hcn).mono ?_
      rintro e w1 ⟨rfl, hb1⟩
      refine ⟨_, rfl, hS.calls hb1, ?_⟩
      replace hS := hS.calls hb1
      refine Seq.move rfl rfl rfl rfl rfl hS ?_
      refine Seq.loadG rfl rfl rfl rfl rfl hS ?_
      refine Seq.move rfl rfl rfl rfl rfl hS ?_
      refine Seq.call #[] rfl rfl rfl rfl hb_VarsC rfl ?_
      refine (VarsC_any _).mono ?_
      rintro e w2 ⟨vv, rfl, hvv, hb2⟩
      refine ⟨_, rfl, hS.calls hb2, ?_⟩
      replace hS := hS.calls hb2
      refine Seq.call #[.agg #[i, p], cv, vv] rfl rfl rfl rfl hb_ConfigC rfl ?_
      refine (boolv (Config_any _ _ _ g c colVars _ (hg0.out.below hS.2.2) (hc0.out.below (Stable.sl Stable.int) hS.2.2) hvv colVars_fit) hrc).mono ?_
      rintro e w3 ⟨rfl, hb3⟩
      refine ⟨_, rfl, hS.calls hb3, ?_⟩
      replace hS := hS.calls hb3
      refine Seq.pick rfl rfl rfl rfl rfl rfl hS ?_
      refine Seq.move rfl rfl rfl rfl rfl hS ?_
      refine Seq.loadG rfl rfl rfl rfl rfl hS ?_
      refine Seq.move rfl rfl rfl rfl rfl hS ?_
      refine Seq.call #[.agg #[i, p], cv] rfl rfl rfl rfl hb_refConf rfl ?_
      refine (refConflictsC_any _ _ g c _ (hg0.out.below hS.2.2) (hc0.out.below (Stable.sl Stable.int) hS.2.2)).mono ?_
      rintro e w4 ⟨rfl, hb4⟩
      refine ⟨_, rfl, hS.calls hb4, ?_⟩
      replace hS := hS.calls hb4
      refine Seq.eqlU rfl rfl rfl rfl rfl rfl hS ?_
      refine Seq.pick rfl rfl rfl rfl rfl rfl hS ?_
      refine Seq.assign rfl rfl rfl rfl rfl hS ?_
      refine Seq.done ?_
      simp only [List.set_cons_zero, List.set_cons_succ]
      have HSS := Lib.hid hS
      clear hS
      go_wp2
      go_ret
      exact ⟨ret_bool Hf.out.symm, HSS.out.2.2⟩
end Go.Proofs.YtegpikhfnhcjaaaGreat
