/- Each operation of the evaluator's is one of the model's (6): all of them. -/
import Derived.Test.YtlfojfndkcmfnaaEvG
namespace Go.Proofs.Ytlfojfndkcmfnaa
namespace Ev
open Go

section
variable {P : Program} {φ : Phi} {M : AM} {w : World} {f : Fr} {o : Oper} {m : Mem} {r : R} {ρ : Operand → Value} {next : Nat}

theorem zc_size {z : Value} {i : TypeInfo} (h : z.cells.size = i.size) (n : Nat) : (Builtin.zeroCells z.cells n).toList.length = n * i.size := by
  have := size_zeroCells z.cells n
  rw [h] at this
  simpa using this

/-- The value and the block behind an append to a known slice. -/
theorem appSome_ok {t ty elem : TypeId} {i : TypeInfo} {zv : Value} (ht : P.underlying t = some (.slice elem)) (hi : P.info? elem = some i) (hz : i.zero = some zv) (hzs : zv.cells.size = i.size)
    {a : Addr} {sLen sCap xLen : Nat} {new new' : List Value} {fx : List Nat} {b : ABlk} (h : appSome m i elem a sLen (sLen + xLen) sCap new fx b = some r)
    (hb : m.b.get a.block = some b) (hm : ∀ j ∈ r.foot, ∀ b, m.b.get j = some b → M j = some b) (hR : Rel φ M w) (hf : r.e.adds = true → φ m.next = none) {s' : Value} (hs : VR φ (.slice (some a) sLen sCap) s')
    {xa : Addr} {xc : Nat} (hnl : new.length = xLen * i.size) (hnv : VRL φ new new') (hnc : ∀ j v, new'[j]? = some v → w.cell? (xa.add j) = some v) (hgood : allGood new = true)
    (h1 : (sLen + xLen) * i.bytes ≤ 100000000) (h2 : sLen + xLen ≤ 100000000) (h0 : xLen ≠ 0) {s : Sem Next}
    (hex : ∀ v' w', (Builtin.append_ #[t, t] ty #[s', .slice (some xa) xLen xc]).run P w = .ok v' w' → s.run P w = .ok (.value v') w') :
    OpOk P s φ M w m.next r.v r.e := by
  obtain ⟨l, A, c', k1, k2, k3, k4, k5, k6, k7⟩ := hs.slice_inv
  subst k3
  have hlen' : new'.length = xLen * i.size := by rw [← hnv.length]; exact hnl
  have hone := oneCell_of_good hnv hgood
  unfold appSome at h
  split at h
  · rename_i c n e z
    obtain ⟨hc, h3⟩ := iteB_some h
    clear h
    simp only [Bool.and_eq_true, Bool.not_eq_true'] at hc
    obtain ⟨⟨⟨⟨c1, c2⟩, c3⟩, c4⟩, c5⟩ := hc
    have c1 := Nat.eq_of_beq_eq_true c1
    have c2 := Nat.eq_of_beq_eq_true c2
    have c3 : z ≠ 0 := fun q => by rw [q] at c3; cases c3
    have c4 := Nat.le_of_ble_eq_true c4
    subst c1
    subst c2
    have hsp : a.spot = none := k2
    have hMb : M a.block = some (.cells c n e i.size) := hm a.block (by
      rw [iteB_eq] at h3
      split at h3
      · unfold appIn at h3
        obtain ⟨_, h4⟩ := iteB_some h3
        rw [forceN_eq] at h4
        cases h4
        simp
      · unfold appOut at h3
        obtain ⟨old, _, h4⟩ := ob_some h3
        rw [appRes_some h4]
        simp) _ hb
    obtain ⟨l', cs, g1, g2, g3, g4, g5, g6⟩ := hR.cellsAt hMb
    rw [k1] at g1
    cases g1
    rw [iteB_eq] at h3
    split at h3
    · -- room that is known
      rename_i hroom
      simp only [Bool.and_eq_true, Bool.not_eq_true'] at hroom
      have r1 := Nat.le_of_ble_eq_true hroom.1
      have r2 : sCap ≠ CU := fun q => by rw [q] at hroom; exact absurd hroom.2 (by decide)
      unfold appIn at h3
      obtain ⟨hfit, h4⟩ := iteB_some h3
      rw [forceN_eq] at h4
      cases h4
      simp only [Bool.and_eq_true] at hfit
      have hfit' := Nat.le_of_ble_eq_true hfit.1
      have ec := k5 r2
      subst ec
      rcases k7 with ⟨rfl, k7⟩ | k7
      · have hrun := append_in_run (P := P) (ty := ty) ht hi (c := xc) (blk := l.blk) (off := l.base + a.off) (sLen := sLen) (sCap := c') hlen' hnc hone r1 g4 (by rw [hlen', ← hnl]; omega)
        have hbr := BR.write g4 g2 g3 g5 g6 hnv (o := a.off + sLen * i.size) hfit'
        have hres := hR.setRow hMb k1 hbr
        rw [show l.base + (a.off + sLen * i.size) = l.base + a.off + sLen * i.size by omega] at hres
        refine ⟨φ, _, .value (.slice (some ⟨l.blk, l.base + a.off, none⟩) (sLen + xLen) c'), hex _ _ hrun, ?_, φ.le_refl, fun _ _ => rfl, fun _ => rfl, hres.1, hres.2⟩
        have : a = ⟨a.block, a.off, none⟩ := by cases a; simp at hsp; simp [hsp]
        show VR φ (.slice (some a) (sLen + xLen) c') _
        rw [this]
        exact VR.slice k1 r1 (fun _ => rfl) k6 (.inl ⟨rfl, k7⟩)
      · omega
    · rename_i hroom
      unfold appOut at h3
      obtain ⟨old, hold, h4⟩ := ob_some h3
      have hf : φ m.next = none := hf (by
        rw [appRes_some h4]
        simp only [iteB_eq]
        split
        · split <;> rfl
        · rfl)
      rw [appRes_some h4]
      clear h3 h4
      obtain ⟨old', o1, o2⟩ := cellsRead g6 hold c4
      have holen : old.length = sLen * i.size := (getCells_some hold).1
      have holen' : old'.length = sLen * i.size := by rw [← o1.length]; exact holen
      have hall : VRL φ (old ++ new) (old' ++ new') := o1.append hnv
      -- a new row
      have grow : c' < sLen + xLen → ∀ (c2 : T Value) (n2 : Nat), n2 = (old ++ new).length → (∀ j v, j < n2 → c2.get j = some v → (old ++ new)[j]? = some v) →
          OpOk P s φ M w m.next (.slice (some ⟨m.next, 0, none⟩) (sLen + xLen) CU) (.new (.cells c2 n2 e i.size)) := by
        intro hlt c2 n2 hn2 hc2
        have hfit : Builtin.nextslicecap (sLen + xLen) c' * i.bytes ≤ 281474976710656 := growslice_fits hlt (by omega)
        have hrun := run_append_grow (P := P) w t ty e i zv ht hi hz A sLen c' old' holen' (fun j v hv => by
          rcases k7 with ⟨rfl, _⟩ | k7
          · rw [addr_add]; exact cell_of g4 (o2 j v hv)
          · have h00 : sLen = 0 := by omega
            have : old' = [] := List.eq_nil_of_length_eq_zero (by rw [holen', h00, Nat.zero_mul])
            rw [this] at hv
            simp at hv) xa xLen xc new' hlen' hnc hlt (by omega) hfit
        have hge := grownCap_ge w (sLen + xLen) c' e
        have hgl := grownCap_le_maxLen w (sLen + xLen) c' e (by unfold maxLen; omega)
        refine grown_ok (P := P) hR hf (s := s) (elem := e) (need := sLen + xLen) (cap := grownCap w (sLen + xLen) c' e) (sz := i.size) (all := old ++ new) (all' := old' ++ new') (rest := (Builtin.zeroCells zv.cells (grownCap w (sLen + xLen) c' e - (sLen + xLen))).toList)
          hall (by
            refine hex _ _ ?_
            rw [hrun]
            congr 3
            apply Array.toList_inj.1
            simp) hge (by unfold maxLen at hgl; exact hgl) (by
            rw [List.length_append, holen, hnl, zc_size hzs, ← Nat.add_mul, ← Nat.add_mul]
            congr 1
            omega) hn2 hc2
      have tofget : ∀ j v, j < (old ++ new).length → (tOf (old ++ new)).get j = some v → (old ++ new)[j]? = some v := fun j v _ h => tOf_get h
      by_cases hcu : sCap = CU
      · -- the capacity is not known
        have hcb : Nat.beq sCap CU = true := by rw [hcu]; decide
        have key : ∀ (c2 : T Value) (n2 : Nat), n2 = (old ++ new).length → (∀ j v, j < n2 → c2.get j = some v → (old ++ new)[j]? = some v) →
            OpOk P s φ M w m.next (.slice (some ⟨m.next, 0, none⟩) (sLen + xLen) CU) (.move a.block (.cells c2 n2 e i.size)) := by
          intro c2 n2 hn2 hc2
          by_cases hlt : c' < sLen + xLen
          · exact (grow hlt c2 n2 hn2 hc2).move_of_new
          · -- in place
            have hle : sLen + xLen ≤ c' := by omega
            rcases k7 with ⟨rfl, k7⟩ | k7
            · rcases k7 with k7 | k7
              · omega
              · have hsz : (sLen + xLen) * i.size ≤ c' * i.size := Nat.mul_le_mul_right _ hle
                rw [Nat.add_mul] at hsz
                rw [g2] at k7
                have hfit : l.base + a.off + sLen * i.size + new'.length ≤ cs.length := by rw [hlen']; omega
                have hrun := append_in_run (P := P) (ty := ty) ht hi (c := xc) (blk := l.blk) (off := l.base + a.off) (sLen := sLen) (sCap := c') hlen' hnc hone hle g4 hfit
                have hle' := phiSet_le (l := ⟨l.blk, l.base + a.off, l.size, l.sz⟩) hf
                refine moved_ok hR hf hMb k1 (l' := ⟨l.blk, l.base + a.off, l.size, l.sz⟩) rfl ?_ ?_ (hex _ _ hrun)
                · have hlen2 : n2 = sLen * i.size + xLen * i.size := by rw [hn2, List.length_append, holen, hnl]
                  refine ⟨g2, by show l.base + a.off + n2 ≤ l.size; omega, _, setRow_heap w _ _ _ e _ g4, ?_, fun j v hj hg => ?_⟩
                  · show _ = l.size
                    simp only [List.length_append, List.length_take, List.length_drop]
                    omega
                  · obtain ⟨v', p1, p2⟩ := (hall.mono hle').get (hc2 j v hj hg)
                    refine ⟨v', ?_, p2⟩
                    show (_ : List Value)[l.base + a.off + j]? = _
                    rw [getElem?_splice cs new' _ _ hfit]
                    by_cases hjo : j < old'.length
                    · rw [if_neg (by omega)]
                      rw [List.getElem?_append_left hjo] at p1
                      exact o2 j v' p1
                    · rw [List.getElem?_append_right (by omega)] at p1
                      rw [if_pos (by omega), ← p1]
                      congr 1
                      omega
                · exact VR.slice (phiSet_self _ _) hle (fun q => absurd rfl q) k6 (.inl ⟨rfl, .inr (by show l.base + a.off + 0 + c' * l.sz ≤ l.size; rw [g2]; omega)⟩)
            · omega
        rw [hcb]
        show OpOk P s φ M w m.next _ (iteB (Nat.beq a.off 0) _ _)
        cases hq : Nat.beq a.off 0 with
        | true =>
          have h0' := Nat.eq_of_beq_eq_true hq
          refine key _ _ (by rw [List.length_append, holen]) fun j v hj hg => ?_
          rcases T.sets_get hg with ⟨p1, p2, p3⟩ | ⟨p1, p2⟩
          · rw [List.getElem?_append_right (by omega), holen]; exact p3
          · rw [List.getElem?_append_left (by omega)]
            obtain ⟨u, q1, q2⟩ := (getCells_some hold).2 j (by omega)
            rw [h0', Nat.zero_add, p2] at q1
            cases q1
            exact q2
        | false => exact key _ _ (by rw [List.length_append]) (by rw [← List.length_append]; exact tofget)
      · have hcb : Nat.beq sCap CU = false := by
          cases hq : Nat.beq sCap CU with
          | false => rfl
          | true => exact absurd (Nat.eq_of_beq_eq_true hq) hcu
        rw [hcb]
        have ec := k5 hcu
        subst ec
        refine grow ?_ _ _ (by rw [List.length_append]) (by rw [← List.length_append]; exact tofget)
        rcases Nat.lt_or_ge c' (sLen + xLen) with q | q
        · exact q
        · exact absurd (by simp only [Bool.and_eq_true, Bool.not_eq_true']; exact ⟨Nat.ble_eq_true_of_le q, hcb⟩) hroom
  · cases h
end
end Ev
end Go.Proofs.Ytlfojfndkcmfnaa
