/- Each operation of the evaluator's is one of the model's (5): append. -/
import Derived.Test.YtlfojfndkcmfnaaEvF
import Derived.Laws.AppendOwn
namespace Go.Proofs.Ytlfojfndkcmfnaa
namespace Ev
open Go

section
variable {P : Program} {φ : Phi} {M : AM} {w : World} {f : Fr} {o : Oper} {m : Mem} {r : R} {ρ : Operand → Value} {next : Nat}

theorem Rel.heap {w' : World} (hR : Rel φ M w) (h : w'.heap = w.heap) : Rel φ M w' := hR.keep fun k _ => by rw [h]
theorem WG.drew_left {φ' : Phi} {M' : AM} {w' : World} (h : WG φ M w.drew φ' M' w') : WG φ M w φ' M' w' := ⟨h.os, h.tape, h.output, h.size, h.keep, h.img⟩

/-- A slice's cells, read. -/
theorem rowOf_some {size : Nat} {x x' : Value} {q : List Value × List Nat} (h : rowOf m size x = some q) (hx : VR φ x x') (hR : Rel φ M w) (hm : ∀ i ∈ q.2, ∀ b, m.b.get i = some b → M i = some b) (h0 : lenA x ≠ 0) :
    ∃ a c new', x' = .slice (some a) (lenA x) c ∧ VRL φ q.1 new' ∧ q.1.length = lenA x * size ∧ ∀ j v, new'[j]? = some v → w.cell? (a.add j) = some v := by
  unfold rowOf at h
  split at h
  · simp [lenA] at h0
  · rename_i a len cap
    split at h
    · cases h
    · rename_i hs
      rw [Bool.cond_eq_ite] at h
      split at h
      · rename_i hc
        exact absurd (Nat.eq_of_beq_eq_true hc) h0
      · split at h
        · rename_i c n e z hb
          rw [Bool.cond_eq_ite] at h
          split at h
          · rename_i hn
            have hn := Nat.le_of_ble_eq_true hn
            split at h
            · rename_i l hl
              cases h
              have hM := hm a.block (by simp) _ hb
              obtain ⟨lc, cs, g1, g2, g3, g4, g5, g6⟩ := hR.cellsAt hM
              obtain ⟨l', A, c', k1, k2, k3, k4, k5, k6, k7⟩ := hx.slice_inv
              rw [g1] at k1
              cases k1
              rcases k7 with ⟨k7, _⟩ | k7
              · obtain ⟨new', r1, r2⟩ := cellsRead g6 hl hn
                refine ⟨A, c', new', k3, r1, (getCells_some hl).1, fun j v hv => ?_⟩
                rw [k7, addr_add]
                exact cell_of g4 (r2 j v hv)
              · simp only [lenA] at h0; omega
            · cases h
          · cases h
        · cases h
  · cases h

theorem appRes_some {k : Nat} {e : Eff} {ft : List Nat} (h : appRes m k e ft = some r) : r = ⟨.slice (some ⟨m.next, 0, none⟩) k CU, e, ft⟩ := by
  unfold appRes at h
  rw [forceN_eq] at h
  cases h
  rfl

/-- The evaluator's own new row, laid by an append that has grown. -/
theorem grown_ok (hR : Rel φ M w) (hf : φ next = none) {s : Sem Next} {elem need cap sz : Nat} {all all' rest : List Value} (hv : VRL φ all all')
    (hr : s.run P w = .ok (.value (.slice (some ⟨w.heap.size, 0, none⟩) need cap)) (w.drew.alloc (.cells (all' ++ rest).toArray elem)))
    (h1 : need ≤ cap) (h2 : cap ≤ 9223372036854775807) (h3 : all.length + rest.length = cap * sz) {c : T Value} {n : Nat} (hn : n = all.length) (hc : ∀ j v, j < n → c.get j = some v → all[j]? = some v) :
    OpOk P s φ M w next (.slice (some ⟨next, 0, none⟩) need CU) (.new (.cells c n elem sz)) := by
  have hle := phiSet_le (l := ⟨w.heap.size, 0, cap * sz, sz⟩) hf
  have hR' : Rel φ M w.drew := hR.heap rfl
  have hlen := hv.length
  have hbr : BR (phiSet φ next ⟨w.heap.size, 0, cap * sz, sz⟩) ⟨w.heap.size, 0, cap * sz, sz⟩ (w.drew.alloc (.cells (all' ++ rest).toArray elem)) (.cells c n elem sz) := by
    refine ⟨rfl, by show 0 + n ≤ cap * sz; omega, all' ++ rest, heap_alloc_at w.drew _, by show _ = cap * sz; simp; omega, fun j v hj hg => ?_⟩
    obtain ⟨v', k1, k2⟩ := (hv.mono hle).get (hc j v hj hg)
    refine ⟨v', ?_, k2⟩
    show (all' ++ rest)[0 + j]? = _
    rw [Nat.zero_add, List.getElem?_append_left (by omega)]
    exact k1
  have := hR'.new (l := ⟨w.heap.size, 0, cap * sz, sz⟩) (b := .cells c n elem sz) (o := .cells (all' ++ rest).toArray elem) hf rfl hbr
  refine ⟨_, _, _, hr, ?_, hle, fun i hi => phiSet_ne _ hi, fun h => (by cases h), this.1, this.2.drew_left⟩
  exact VR.slice (phiSet_self _ _) h1 (fun h => absurd rfl h) h2 (.inl ⟨rfl, .inr (by simp)⟩)

/-- Forgetting a block. -/
theorem OpOk.move_of_new {s : Sem Next} {i : Nat} {b : ABlk} {v : Value} (h : OpOk P s φ M w next v (.new b)) : OpOk P s φ M w next v (.move i b) := by
  obtain ⟨φ', w', nx, h1, h2, h3, h4, h5, h6, h7⟩ := h
  have hs : ∀ j x, appM M next (.move i b) j = some x → appM M next (.new b) j = some x := by
    intro j x hx
    simp only [appM, upd] at hx ⊢
    split at hx
    · rename_i e; rw [if_pos e]; exact hx
    · rename_i e
      rw [if_neg e]
      split at hx
      · cases hx
      · exact hx
  exact ⟨φ', w', nx, h1, h2, h3, h4, fun h => (by cases h), h6.sub hs, h7.sub hs⟩

/-- The block that was appended to in place, under its new number. -/
theorem moved_ok (hR : Rel φ M w) (hf : φ next = none) {s : Sem Next} {i : Nat} {b b' : ABlk} {l l' : Loc} {cs : Array Value} {v v' : Value} (hb : M i = some b) (hl : φ i = some l) (hbl : l'.blk = l.blk)
    (hbr : BR (phiSet φ next l') l' (w.setRow l.blk cs) b') (hv : VR (phiSet φ next l') v v') (hr : s.run P w = .ok (.value v') (w.setRow l.blk cs)) :
    OpOk P s φ M w next v (.move i b') := by
  have hle := phiSet_le (l := l') hf
  have hin : i ≠ next := fun e => by subst e; rw [hf] at hl; cases hl
  have old : ∀ j x, j ≠ i → j ≠ next → M j = some x → ∃ lj, φ j = some lj ∧ lj.blk ≠ l.blk ∧ BR (phiSet φ next l') lj (w.setRow l.blk cs) x := fun j x h1 h2 hx => by
    obtain ⟨lj, k1, k2⟩ := hR.blk j x hx
    have := hR.inj j i x b lj l h1 hx hb k1 hl
    exact ⟨lj, k1, this, (k2.mono hle).keep (setRow_other w _ _ _ this)⟩
  refine ⟨_, _, _, hr, hv, hle, fun j hj => phiSet_ne _ hj, fun h => (by cases h), ⟨fun j x hx => ?_, fun j k x y lj lk hne hx hy hj hk => ?_⟩,
    ⟨rfl, rfl, rfl, by simp, fun k hk hn => setRow_other w _ _ _ (fun e => hn ⟨i, b, l, hb, hl, e.symm⟩), fun k hk h => ?_⟩⟩
  · simp only [appM, upd] at hx
    by_cases e : j = next
    · subst e; rw [if_pos rfl] at hx; cases hx; exact ⟨l', phiSet_self _ _, hbr⟩
    · rw [if_neg e] at hx
      by_cases e2 : j = i
      · rw [if_pos e2] at hx; cases hx
      · rw [if_neg e2] at hx
        obtain ⟨lj, k1, k2, k3⟩ := old j x e2 e hx
        exact ⟨lj, by rw [phiSet_ne _ e]; exact k1, k3⟩
  · simp only [appM, upd] at hx hy
    by_cases e : j = next
    · subst e
      rw [phiSet_self] at hj; cases hj
      have e' : k ≠ j := fun q => hne q.symm
      rw [if_neg e'] at hy
      by_cases e2 : k = i
      · rw [if_pos e2] at hy; cases hy
      · rw [if_neg e2] at hy
        obtain ⟨lk', k1, k2, _⟩ := old k y e2 e' hy
        rw [phiSet_ne _ e', k1] at hk; cases hk
        rw [hbl]; exact fun q => k2 q.symm
    · rw [if_neg e] at hx
      by_cases e2 : j = i
      · rw [if_pos e2] at hx; cases hx
      · rw [if_neg e2] at hx
        obtain ⟨lj', k1, k2, _⟩ := old j x e2 e hx
        rw [phiSet_ne _ e, k1] at hj; cases hj
        by_cases e3 : k = next
        · subst e3; rw [phiSet_self] at hk; cases hk; rw [hbl]; exact k2
        · rw [if_neg e3] at hy
          by_cases e4 : k = i
          · rw [if_pos e4] at hy; cases hy
          · rw [if_neg e4] at hy
            rw [phiSet_ne _ e3] at hk
            exact hR.inj j k x y _ _ hne hx hy k1 hk
  · obtain ⟨j, x, lj, hx, hj, hk'⟩ := h
    simp only [appM, upd] at hx
    by_cases e : j = next
    · subst e; rw [phiSet_self] at hj; cases hj; exact ⟨i, b, l, hb, hl, by rw [← hbl]; exact hk'⟩
    · rw [if_neg e] at hx
      by_cases e2 : j = i
      · rw [if_pos e2] at hx; cases hx
      · rw [if_neg e2] at hx; rw [phiSet_ne _ e] at hj; exact ⟨j, x, lj, hx, hj, hk'⟩

/-- The model's append into room that is there. -/
theorem append_in_run {t ty e : TypeId} {i : TypeInfo} (ht : P.underlying t = some (.slice e)) (hi : P.info? e = some i) {blk off sLen sCap : Nat} {a : Addr} {n c : Nat} {new cs : List Value} (hl : new.length = n * i.size)
    (hnew : ∀ j v, new[j]? = some v → w.cell? (a.add j) = some v) (hone : ∀ v ∈ new, v.oneCell' = true) (hle : sLen + n ≤ sCap) (hh : w.heap[blk]? = some (.cells cs.toArray e (0, 0))) (hfit : off + sLen * i.size + new.length ≤ cs.length) :
    (Builtin.append_ #[t, t] ty #[.slice (some ⟨blk, off, none⟩) sLen sCap, .slice (some a) n c]).run P w =
      .ok (.slice (some ⟨blk, off, none⟩) (sLen + n) sCap) (w.setRow blk (cs.take (off + sLen * i.size) ++ new ++ cs.drop (off + sLen * i.size + new.length)).toArray) := by
  have hf := run_firstCells_some (P := P) w i.size n a n c new hl hnew
  have hst := run_storeCells_at (P := P) blk (off + sLen * i.size) e new 0 cs.toArray w hh (by simpa using hfit) hone
  simp only [Nat.add_zero] at hst
  simp [Builtin.append_, run_underlying ht, rSO hi, Builtin.lenOf, hle, hf, addr_add, hst]
end
end Ev
end Go.Proofs.Ytlfojfndkcmfnaa
