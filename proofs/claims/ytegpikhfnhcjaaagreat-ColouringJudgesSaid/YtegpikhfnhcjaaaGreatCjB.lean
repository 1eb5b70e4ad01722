/- Walk of colouring.conflicts. -/
import Derived.Test.YtegpikhfnhcjaaaGreatCjA
import Derived.Test.YtegpikhfnhcjaaaGreatLnr
import Derived.Test.YtegpikhfnhcjaaaGreatQip
namespace Go.Proofs.YtegpikhfnhcjaaaGreat
open Go.RowKit

theorem Links_any (i p : Value) (w : World) :
    Calls Tryz.prog 37 #[.agg #[i, p]] w fun e w' => e = .returned (.func (.func 57) #[] #[.pointer (some ⟨w.heap.size, 0, none⟩)]) ∧ w' = w.alloc (.cells #[i, p] 25) := by
  go_enter Tryz.func37, Tryz.ntmps37
  go_wp2
  go_ret
  exact ⟨rfl, rfl⟩

/-- The two ends of a link have one colour. -/
def cbit (c : Conf) (x : Ev.El) : Bool := (c.getD x.v []).getD 0 0 == (c.getD x.a.toNat []).getD 0 0
def cstep (c : Conf) (s : Nat) (x : Ev.El) : Nat := if cbit c x = true then s ||| 2 ^ x.v else s
def confN (g : Gr) (c : Conf) : Nat := (Ev.flatAt 0 g.ports).foldl (cstep c) 0

theorem flatAt_mem : ∀ (ps : List (List (Int × Int))) (v : Nat) (x : Ev.El), x ∈ Ev.flatAt v ps → ∃ k ls, ps[k]? = some ls ∧ x.v = v + k ∧ (x.a, x.b) ∈ ls
  | [], _, _, h => by simp [Ev.flatAt] at h
  | ls :: ps, v, x, h => by
    unfold Ev.flatAt at h
    rcases List.mem_append.1 h with h | h
    · obtain ⟨y, hy, rfl⟩ := List.mem_map.1 h
      exact ⟨0, ls, rfl, rfl, hy⟩
    · obtain ⟨k, l, h1, h2, h3⟩ := flatAt_mem ps (v + 1) x h
      exact ⟨k + 1, l, by simpa using h1, by omega, h3⟩
/-- Where a link's ends lie. -/
theorem link_ends {g : Gr} {c : Conf} (h : colConfB g c = true) {x : Ev.El} (hx : x ∈ Ev.flatAt 0 g.ports) :
    x.v < 24 ∧ (∃ y, c[x.v]? = some [y]) ∧ 0 ≤ x.a ∧ ∃ z, c[x.a.toNat]? = some [z] := by
  have hv : validB g = true := (Bool.and_eq_true _ _ ▸ h).1
  have hconf := (confB_iff _ _ _).1 (Bool.and_eq_true _ _ ▸ h).2
  have hgood := (validB_iff g).1 hv
  have one : ∀ u, u < g.ports.length → ∃ y, c[u]? = some [y] := fun u hu => by
    have hl : u < c.length := by rw [hconf.1]; exact hu
    have := (hconf.2 u _ (List.getElem?_eq_getElem hl)).1
    simp [boundsG] at this
    obtain ⟨y, hy⟩ := List.length_eq_one_iff.1 this
    exact ⟨y, by rw [List.getElem?_eq_getElem hl, hy]⟩
  obtain ⟨k, ls, h1, h2, h3⟩ := flatAt_mem g.ports 0 x hx
  have hk : k < g.ports.length := (List.getElem?_eq_some_iff.1 h1).1
  obtain ⟨k1, k2, _⟩ := hgood.link h1 h3
  have hn := hgood.2.1
  refine ⟨by omega, one _ (by omega), k1, one _ (by omega)⟩

theorem bits_or_u32_nat (a b : Nat) (ha : a < 4294967296) (hb : b < 4294967296) : bits .or .u32 (a : Int) (b : Int) = ((a ||| b : Nat) : Int) := by
  have hx : a ||| b < 2 ^ 32 := Nat.or_lt_two_pow (by omega) (by omega)
  have h1 : (BitVec.ofInt 32 (a : Int)).toNat = a := by
    rw [BitVec.ofInt_natCast, BitVec.toNat_ofNat]; exact Nat.mod_eq_of_lt (by omega)
  have h2 : (BitVec.ofInt 32 (b : Int)).toNat = b := by
    rw [BitVec.ofInt_natCast, BitVec.toNat_ofNat]; exact Nat.mod_eq_of_lt (by omega)
  show IntKind.u32.wrap ((BitVec.ofInt 32 (a : Int) ||| BitVec.ofInt 32 (b : Int)).toNat : Int) = _
  rw [BitVec.toNat_or, h1, h2, IntKind.wrap_u32]
  omega
theorem cfold_lt (c : Conf) : ∀ (l : List Ev.El) (s : Nat), s < 2 ^ 24 → (∀ x ∈ l, x.v < 24) → l.foldl (cstep c) s < 2 ^ 24
  | [], _, hs, _ => hs
  | x :: l, s, hs, h => by
    refine cfold_lt c l _ ?_ (fun y hy => h y (List.mem_cons_of_mem _ hy))
    unfold cstep
    split
    · exact Nat.or_lt_two_pow hs (Nat.pow_lt_pow_right (by omega) (h x List.mem_cons_self))
    · exact hs
/-- What holds between the rounds. -/
def CJ (w : World) (cs : Value) (c : Conf) (pre : List Ev.El) (W : World) : Prop :=
  Below w.heap.size w W ∧ W.heap[w.heap.size + 1]? = some (.cells #[cs] 26 (0, 0)) ∧ W.heap[w.heap.size + 2]? = some (.cells #[.int .u32 ((pre.foldl (cstep c) 0 : Nat) : Int)] 33 (0, 0))
theorem CJ.grow {w W W' : World} {cs : Value} {c : Conf} {pre : List Ev.El} (h : CJ w cs c pre W) (hb : Below W.heap.size W W') : CJ w cs c pre W' :=
  ⟨h.1.trans (hb.mono h.1.size), (hb.block _ (Array.getElem?_eq_some_iff.1 h.2.1).1).trans h.2.1, (hb.block _ (Array.getElem?_eq_some_iff.1 h.2.2).1).trans h.2.2⟩
theorem CJ.put {w W : World} {cs : Value} {c : Conf} {pre : List Ev.El} {l : Nat} {o : Obj} (h : CJ w cs c pre W) (hl : w.heap.size + 3 ≤ l) : CJ w cs c pre (W.putObj l o) :=
  ⟨⟨h.1.os, h.1.tape, h.1.output, by simp; exact h.1.size, fun k hk => (World.putObj_heap_other (by omega)).trans (h.1.block k hk)⟩, (World.putObj_heap_other (by omega)).trans h.2.1, (World.putObj_heap_other (by omega)).trans h.2.2⟩

open Ev in
set_option maxRecDepth 100000 in
set_option maxHeartbeats 1000000 in
theorem conflicts_any (gv cv : Value) (g : Gr) (c : Conf) (w : World) (hg : GrAt w gv g) (hc : RowsAt w cv c) (hcf : colConfB g c = true) :
    Calls Tryz.prog 21 #[gv, cv] w fun e w' => e = .returned (.int .u32 (confN g c)) ∧ Below w.heap.size w w' := by
  have hg0 := Lib.hid hg
  have hc0 := Lib.hid hc
  have Hcf := Lib.hid hcf
  obtain ⟨i, p, rfl, hi, hp⟩ := hg
  obtain ⟨A3, c3, rfl, hC1, hC2⟩ := slAt_form hc
  have Hp := Lib.hid hp
  clear hi hp hc hcf
  refine callsIn_wide.1 (callsIn_of_wp_marks (n := 0) Tryz.func21 rfl trivial ?_)
  simp only [Tryz.ntmps21, List.size_toArray, List.length_cons, List.length_nil, Nat.reduceAdd, Nat.reduceSub, Array.replicate_succ,
     Array.replicate_zero, List.push_toArray, List.append_toArray, List.nil_append, List.cons_append]
  gi_wp2_with fail
  obtain ⟨W0, hW0⟩ : ∃ W, W = ((w.alloc (.cells #[i, p] 25)).alloc (.cells #[.slice A3 (List.length c) c3] 26)).alloc (.cells #[.int .u32 0] 33) := ⟨_, rfl⟩
  have HbW := Lib.hid (show Below w.heap.size w W0 by subst hW0; exact (((Below.refl _ _).alloc (Nat.le_refl _) _).alloc (by simp) _).alloc (by simp; omega) _)
  have hsz : W0.heap.size = w.heap.size + 3 := by subst hW0; simp
  have Hc1 := Lib.hid (show W0.heap[w.heap.size + 1]? = some (.cells #[.slice A3 (List.length c) c3] 26 (0, 0)) by
    subst hW0
    rw [show w.heap.size + 1 = (w.alloc (.cells #[i, p] 25)).heap.size by simp, Below.heap_alloc _ _ _ (by simp)]
    exact heap_alloc_new _ _)
  have Hc2 := Lib.hid (show W0.heap[w.heap.size + 2]? = some (.cells #[.int .u32 0] 33 (0, 0)) by
    subst hW0
    rw [show w.heap.size + 2 = ((w.alloc (.cells #[i, p] 25)).alloc (.cells #[.slice A3 (List.length c) c3] 26)).heap.size by simp]
    exact heap_alloc_new _ _)
  rw [← hW0]
  clear hW0
  refine ⟨trivial, rfl, callsIn_wide.2 ((Links_any i p W0).mono ?_)⟩
  rintro e W1 ⟨rfl, rfl⟩
  gi_wp2_with fail
  refine range_links (w0 := w) (s := p) (prt := g.ports) (b := w.heap.size + 3) (CJ w (.slice A3 (List.length c) c3) c) Hp.out rfl ?_ (fun _ _ h => h.1) (fun _ _ _ h hb => h.grow hb) (fun _ _ _ _ h hl => h.put (by simp [hsz] at hl; omega)) ?_ ?_ ?_
  · rw [← hsz]; simp
  · exact CJ.grow ⟨HbW.out, Hc1.out, Hc2.out⟩ ((Below.refl _ _).alloc (Nat.le_refl _) _)
  · intro L pre x post W hL hLW hJ hfl
    obtain ⟨hx24, ⟨y, hy⟩, hxa, z, hz⟩ := link_ends Hcf.out (x := x) (by rw [hfl]; simp)
    have Hstep := Lib.hid (show (pre ++ [x]).foldl (cstep c) 0 = cstep c (pre.foldl (cstep c) 0) x by rw [List.foldl_append]; rfl)
    have Hcb := Lib.hid (show cbit c x = (y == z) by simp [cbit, List.getD, hy, hz])
    obtain ⟨b3, o3, sv, e3, hb3, hcs, hs⟩ := rowsAt_at hc0.out hy
    obtain ⟨b3', o3', sz, e3', hb3', hcz, hsz'⟩ := rowsAt_at hc0.out hz
    cases e3
    cases e3'
    obtain ⟨b4, o4, c4, rfl, hb4, _, _, hc4, _⟩ := IntsAt.at_ (xs := [y]) hs (k := 0) (by simp)
    obtain ⟨b5, o5, c5, rfl, hb5, _, _, hc5, _⟩ := IntsAt.at_ (xs := [z]) hsz' (k := 0) (by simp)
    have HJ := Lib.hid hJ
    have hyl : x.v < c.length := (List.getElem?_eq_some_iff.1 hy).1
    have hzl : x.a.toNat < c.length := (List.getElem?_eq_some_iff.1 hz).1
    have Hlt := Lib.hid (show pre.foldl (cstep c) 0 < 2 ^ 24 from cfold_lt c _ _ (by omega) (fun z hz => (link_ends Hcf.out (x := z) (by rw [hfl]; simp [hz])).1))
    clear hJ hfl hs hsz' hy hz
    obtain ⟨xv, xa, xb⟩ := x
    obtain ⟨xn, hxn⟩ := Int.eq_ofNat_of_zero_le hxa
    simp only at hxn hx24 hcs hcz hyl hzl
    subst hxn
    simp only [Int.toNat_natCast] at hcz hzl
    simp only [El.v0, El.v1, Int.ofNat_eq_natCast]
    have hL2 : w.heap.size + 4 < L := by simp [hsz] at hL; omega
    have hL' : w.heap.size + 3 ≤ L := by omega
    gi_wp2_with (rw [Oper.semAt_eq _ _ _ (fun c h => by cases h)]; go_simp; try go_bits)
    refine ⟨⟨Below.heap_alloc _ _ _ hLW, Below.heap_alloc _ _ _ (by omega)⟩, fun o => ?_⟩
    obtain ⟨W2, hW2⟩ : ∃ W2, W2 = (W.alloc (.cells #[.int .i64 (xn : Int), .int .i64 xb] 51)).putObj L o := ⟨_, rfl⟩
    have HJ2 : CJ w (.slice (some ⟨b3, o3, none⟩) (List.length c) c3) c pre W2 := by subst hW2; exact (HJ.out.grow ((Below.refl _ _).alloc (Nat.le_refl _) _)).put hL'
    have hlk : W2.cell? ⟨W.heap.size, 0, none⟩ = some (.int .i64 (xn : Int)) := by
      subst hW2
      have h1 : (W.alloc (.cells #[.int .i64 (xn : Int), .int .i64 xb] 51)).heap[W.heap.size]? = some (.cells #[.int .i64 (xn : Int), .int .i64 xb] 51 (0, 0)) := heap_alloc_new _ _
      have h2 := (World.putObj_heap_other (w := W.alloc (.cells #[.int .i64 (xn : Int), .int .i64 xb] 51)) (r := L) (k := W.heap.size) (o := o) (by omega)).trans h1
      simp only [World.cell?]
      rw [h2]
      rfl
    have hcb : W2.cell? ⟨w.heap.size + 1, 0, none⟩ = some (.slice (some ⟨b3, o3, none⟩) (List.length c) c3) := by simp [World.cell?, HJ2.2.1]
    have k1 := keepCells HJ2.1 _ _ hcs
    have k2 := keepCells HJ2.1 _ _ hcz
    have k3 := keepCells HJ2.1 _ _ hc4
    have k4 := keepCells HJ2.1 _ _ hc5
    simp only [List.getElem_cons_zero, Nat.add_zero] at k3 k4
    rw [← hW2]
    have hszW : W2.heap.size = W.heap.size + 1 := by subst hW2; simp
    have Hszw := Lib.hid hszW
    clear hszW
    have HJ3 := Lib.hid HJ2
    clear HJ2 hW2 HJ hcs hcz hc4 hc5
    apply wpIn_block
    apply wpIn_seq
    refine wpIn_region_quiet_lit (r := some L) (by kernel_rfl) (by kernel_rfl) (fun o ho c => ?_) (fun ⟨_, _, h⟩ => by cases h.1) ?_
    · simp only [List.mem_cons, List.not_mem_nil, or_false] at ho
      rcases ho with rfl | rfl | rfl | rfl | rfl | rfl | rfl | rfl | rfl | rfl | rfl | rfl | rfl | rfl <;> simp
    · repeat (quiet_step (fail))
      refine wpQuiet_nil ?_
      intro _ hw'
      obtain ⟨nq, hw''⟩ := hw'
      subst hw''
      show Code.wpIn _ _ _ _ _ _ _
      have hset : W2.heap[w.heap.size + 2]? = _ := HJ3.out.2.2
      cases hyz : (y == z) with
      | false =>
        have Hs := Lib.hid (show (pre ++ [(⟨xv, (xn : Int), xb⟩ : El)]).foldl (cstep c) 0 = pre.foldl (cstep c) 0 by
          have := Hstep.out
          rw [this]
          unfold cstep
          have hb := Hcb.out
          rw [hb, hyz]
          rfl)
        refine wpIn_cond_false rfl (wpIn_skip ?_)
        refine ⟨rfl, ⟨rfl, rfl⟩, ?_, ?_⟩
        · show _ ≤ W2.heap.size
          rw [Hszw.out]
          exact Nat.le_refl _
        · have : CJ w (.slice (some ⟨b3, o3, none⟩) (List.length c) c3) c pre = CJ w (.slice (some ⟨b3, o3, none⟩) (List.length c) c3) c (pre ++ [(⟨xv, (xn : Int), xb⟩ : El)]) := by unfold CJ; rw [Hs.out]
          rw [← this]
          exact HJ3.out.grow (below_drewN (Below.refl _ _) nq)
      | true =>
        refine wpIn_cond_true rfl ?_
        refine wpIn_region_plan (r := some L) (by kernel_rfl) [(1, true), (2, true), (0, false), (3, true), (4, false)] (fun _ => True) (by kernel_rfl) (fun o ho c => ?_) (fun ⟨_, _, h⟩ => by cases h.1) (fun c d v a w h => by cases h.1) rfl (by kernel_rfl) ?_
        · simp at ho
          rcases ho with rfl | rfl | rfl | rfl | rfl <;> simp
        refine Seq.move rfl rfl rfl rfl rfl trivial ?_
        refine Seq.yield (.int .u32 ((2 ^ xv : Nat) : Int)) rfl rfl rfl trivial (fun w _ => ?_) ?_
        · simp [go_sem, execOp, evalL]
          have hp : ∀ k : Fin 24, IntKind.u32.wrap (2 ^ k.1) = 2 ^ k.1 := by decide
          exact hp ⟨xv, hx24⟩
        have hcell : W2.cell? ⟨w.heap.size + 1 + 1, 0, none⟩ = some (.int .u32 ((pre.foldl (cstep c) 0 : Nat) : Int)) := by
          simp only [World.cell?]
          rw [hset]
          rfl
        refine Seq.act1 (v := .int .u32 ((pre.foldl (cstep c) 0 : Nat) : Int)) (w' := (W2.drewN nq).drew) rfl rfl rfl ?_ trivial ?_
        · simp [go_sem, execOp, evalL, hcell]
        refine Seq.yield (.int .u32 ((pre.foldl (cstep c) 0 ||| 2 ^ xv : Nat) : Int)) rfl rfl rfl trivial (fun w _ => ?_) ?_
        · simp [go_sem, execOp, evalL]
          have := bits_or_u32_nat (pre.foldl (cstep c) 0) (2 ^ xv) (by have := Hlt.out; omega) (by have : 2 ^ xv < 2 ^ 24 := Nat.pow_lt_pow_right (by omega) hx24; omega)
          rw [← this]
          simp
        refine Seq.act0 (w' := ((W2.drewN nq).drew).setCell ⟨w.heap.size + 1 + 1, 0, none⟩ (.int .u32 ((pre.foldl (cstep c) 0 ||| 2 ^ xv : Nat) : Int))) rfl rfl rfl ?_ trivial ?_
        · have hfz : W2.frozen? ⟨w.heap.size + 1 + 1, 0, none⟩ = false := frozen_of_row _ _ _ _ _ hset
          simp [go_sem, execOp, evalL, hcell, hfz]
        refine Seq.done ?_
        have Hs := Lib.hid (show (pre ++ [(⟨xv, (xn : Int), xb⟩ : El)]).foldl (cstep c) 0 = pre.foldl (cstep c) 0 ||| 2 ^ xv by
          have := Hstep.out
          rw [this]
          unfold cstep
          have hb := Hcb.out
          rw [hb, hyz]
          rfl)
        refine ⟨rfl, ⟨heap_setCell_other _ _ _ _ (by simp; omega), heap_setCell_other _ _ _ _ (by simp; omega)⟩, ?_, ?_⟩
        · rw [World.size_setCell]
          show _ ≤ W2.heap.size
          rw [Hszw.out]
          exact Nat.le_refl _
        · unfold CJ
          rw [Hs.out]
          refine ⟨?_, ?_, ?_⟩
          · exact Below.setCell (below_drewN HJ3.out.1 (nq + 1)) (by simp; omega) _
          · refine (heap_setCell_other _ _ _ _ (by simp)).trans ?_
            exact HJ3.out.2.1
          · exact heap_setCell_same (W2.drewN nq).drew (w.heap.size + 2) 0 _ _ _ hset
  · intro W D hJ hD hdf
    have hcell : W.cell? ⟨w.heap.size + 1 + 1, 0, none⟩ = some (.int .u32 (confN g c : Nat)) := by
      have := hJ.2.2
      simp [World.cell?, this, confN]
    have HJ := Lib.hid hJ
    clear hJ
    gi_wp2_with fail
    have hD' : w.heap.size + 3 ≤ D := by simp [hsz] at hD; omega
    refine ⟨by simp, .inl ⟨D, W.putObj D (.deferred none), rfl, run_takeDeferred hdf, .int .u32 (confN g c : Nat), ?_, rfl, (HJ.out.put hD').1⟩⟩
    simp [results, Tryz.results21, go_sem]
end Go.Proofs.YtegpikhfnhcjaaaGreat
