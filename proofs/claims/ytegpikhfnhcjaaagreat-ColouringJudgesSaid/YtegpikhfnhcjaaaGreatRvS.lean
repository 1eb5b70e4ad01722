/- graph.symmetric, handed to the evaluator by its contract. -/
import Derived.Test.YtegpikhfnhcjaaaGreatRvD
import Derived.Test.YtegpikhfnhcjaaaGreatGraphB
namespace Go.Proofs.YtegpikhfnhcjaaaGreat
namespace Ev
open Go Go.RowKit

section
variable {φ : Phi} {M : AM} {w : World} {m : Mem}

theorem inI64_spec {n : Int} (h : inI64 n = true) : I64 n := by
  unfold inI64 at h
  split at h
  · have := Nat.le_of_ble_eq_true h; unfold I64; rename_i k; simp only [Int.ofNat_eq_natCast]; omega
  · have := Nat.le_of_ble_eq_true h; unfold I64; omega
theorem pairsOf_spec : ∀ {l : List Value} {xs : List (Int × Int)}, pairsOf l = some xs → l.length = xs.length * 2 ∧ ∀ j x, xs[j]? = some x → l[j * 2]? = some (.int .i64 x.1) ∧ l[j * 2 + 1]? = some (.int .i64 x.2) ∧ I64 x.1 ∧ I64 x.2
  | [], xs, h => by cases h; exact ⟨rfl, by simp⟩
  | .int .i64 a :: .int .i64 b :: l, xs, h => by
    unfold pairsOf at h
    split at h
    · rename_i r hr
      rw [Bool.cond_eq_ite] at h
      split at h
      · rename_i hc
        cases h
        simp only [Bool.and_eq_true] at hc
        obtain ⟨h1, h2⟩ := pairsOf_spec hr
        refine ⟨by simp [h1]; omega, fun j x hx => ?_⟩
        cases j with
        | zero => simp at hx; subst hx; exact ⟨rfl, rfl, inI64_spec hc.1, inI64_spec hc.2⟩
        | succ j =>
          have := h2 j x (by simpa using hx)
          rw [show (j + 1) * 2 = j * 2 + 1 + 1 by omega]
          simpa using this
      · cases h
    · cases h
theorem mapO_spec {α β : Type} {f : α → Option β} : ∀ {l : List α} {r : List β}, mapO f l = some r → l.length = r.length ∧ ∀ (j : Nat) (y : β), r[j]? = some y → ∃ x, l[j]? = some x ∧ f x = some y
  | [], r, h => by cases h; exact ⟨rfl, by simp⟩
  | x :: l, r, h => by
    unfold mapO at h
    split at h
    · cases h
    · rename_i y hy
      split at h
      · cases h
      · rename_i r' hr
        cases h
        obtain ⟨h1, h2⟩ := mapO_spec hr
        refine ⟨by simp [h1], fun j z hz => ?_⟩
        cases j with
        | zero => simp at hz; subst hz; exact ⟨x, rfl, hy⟩
        | succ j => simpa using h2 j z (by simpa using hz)

/-- A slice that the evaluator reads, read in the world. -/
theorem rowOf_slAt {α : Type} {size : Nat} {E : Elem α} {v v' : Value} {l : List Value} {ft : List Nat} {xs : List α} (h : rowOf m size v = some (l, ft)) (hv : VR φ v v') (hR : Rel φ M w) (hs : Sub m M) (hlen : l.length = xs.length * size) (h0 : size ≠ 0)
    (hE : ∀ (l' : List Value) (b off : Nat), VRL φ l l' → (∀ j u, l'[j]? = some u → w.cell? ⟨b, off + j, none⟩ = some u) → ∀ j x, xs[j]? = some x → E w b (off + j * size) x) : SlAt size E w v' xs := by
  unfold rowOf at h
  split at h
  · cases h
    have e := hv.eq_simple rfl
    subst e
    have : xs = [] := by
      rcases Nat.mul_eq_zero.1 (show xs.length * size = 0 from hlen.symm) with h | h
      · exact List.eq_nil_of_length_eq_zero h
      · exact absurd h h0
    subst this
    exact SlAt.nil w
  · rename_i a len cap
    obtain ⟨lc, A, c', k1, k2, k3, k4, k5, k6, k7⟩ := hv.slice_inv
    subst k3
    split at h
    · cases h
    · rw [Bool.cond_eq_ite] at h
      split at h
      · rename_i hl0
        have hl0 := Nat.eq_of_beq_eq_true hl0
        subst hl0
        cases h
        have : xs = [] := by
          rcases Nat.mul_eq_zero.1 (show xs.length * size = 0 from hlen.symm) with h | h
          · exact List.eq_nil_of_length_eq_zero h
          · exact absurd h h0
        subst this
        exact ⟨some A, c', rfl, Nat.zero_le _, k6, fun q => absurd q (by simp)⟩
      · rename_i hl0
        split at h
        · rename_i c n e z hb
          rw [Bool.cond_eq_ite] at h
          split at h
          · rename_i hn
            have hn := Nat.le_of_ble_eq_true hn
            split at h
            · rename_i l2 hl2
              cases h
              have hlen2 := (getCells_some hl2).1
              have hxl : xs.length = len := by
                rw [hlen2] at hlen
                exact (Nat.eq_of_mul_eq_mul_right (by omega) hlen).symm
              obtain ⟨lc', cs, g1, g2, g3, g4, g5, g6⟩ := hR.cellsAt (hs _ _ hb)
              rw [k1] at g1
              cases g1
              obtain ⟨l', r1, r2⟩ := cellsRead g6 hl2 hn
              subst hxl
              refine ⟨some A, c', rfl, k4, k6, fun hpos => ?_⟩
              rcases k7 with ⟨rfl, _⟩ | k7
              · refine ⟨lc.blk, lc.base + a.off, rfl, (Array.getElem?_eq_some_iff.1 g4).1, hE l' _ _ r1 fun j u hu => cell_of g4 (r2 j u hu)⟩
              · omega
            · cases h
          · cases h
        · cases h
  · cases h

theorem linksOf_at {v v' : Value} {xs : List (Int × Int)} (h : linksOf m v = some xs) (hv : VR φ v v') (hR : Rel φ M w) (hs : Sub m M) : LinksAt w v' xs := by
  unfold linksOf at h
  split at h
  · rename_i l ft hl
    obtain ⟨h1, h2⟩ := pairsOf_spec h
    refine rowOf_slAt hl hv hR hs h1 (by decide) fun l' b off hl' hc j x hx => ?_
    obtain ⟨q1, q2, q3, q4⟩ := h2 j x hx
    obtain ⟨u1, p1, p2⟩ := hl'.get q1
    obtain ⟨u2, p3, p4⟩ := hl'.get q2
    have e1 := p2.eq_simple rfl
    have e2 := p4.eq_simple rfl
    subst e1 e2
    exact ⟨hc _ _ p1, by rw [Nat.add_assoc]; exact hc _ _ p3, q3, q4⟩
  · cases h
theorem portsOf_at {v v' : Value} {ps : List (List (Int × Int))} (h : portsOf m v = some ps) (hv : VR φ v v') (hR : Rel φ M w) (hs : Sub m M) : PortsAt w v' ps := by
  unfold portsOf at h
  split at h
  · rename_i l ft hl
    obtain ⟨h1, h2⟩ := mapO_spec h
    refine rowOf_slAt hl hv hR hs (by rw [h1, Nat.mul_one]) (by decide) fun l' b off hl' hc j x hx => ?_
    obtain ⟨u, q1, q2⟩ := h2 j x hx
    obtain ⟨u', p1, p2⟩ := hl'.get q1
    exact ⟨u', by rw [Nat.mul_one]; exact hc _ _ p1, linksOf_at q2 p2 hR hs⟩
  · cases h

/-- A contract that leaves the old memory alone, as the evaluator takes it. -/
theorem sound_of_below {P : Program} {g : FuncId} {args : List Value} {v : Value} (hn : NoNum P) (hg : ∃ fn c, P.funcs[g]? = some fn ∧ fn.body = some c)
    (h : ∀ φ M w args', Rel φ M w → Sub m M → VRL φ args args' → Calls P g args'.toArray w fun e w' => ∃ v', e = .returned v' ∧ VR φ v v' ∧ Below w.heap.size w w') : SoundT P (.call g args m) (.call v (enterM m)) := by
  intro hw
  obtain ⟨fn, c, h1, h2⟩ := hg
  refine ⟨⟨Nat.le_refl _, fun i b hb => .inl ⟨b, hb⟩, fun i b _ _ hb => hb, hw⟩, fun φ M w args' hR hs hv _ => .inl ⟨callFunc_enter hn h1 h2 _ _, (h φ M w args' hR hs hv).mono ?_⟩⟩
  rintro e w' ⟨v', rfl, hvr, hb⟩
  exact ⟨v', rfl, φ, M, ⟨φ.le_refl, fun _ _ => rfl, hR.keep fun k hk => hb.block k hk, hs, fun _ _ _ => rfl, ⟨hb.os, hb.tape, hb.output, hb.size, fun k hk _ => hb.block k hk, fun _ _ h => h⟩⟩, hvr⟩

theorem noNum : NoNum Tryz.prog := by
  have h : Tryz.prog.funcs.all (fun fn => !(fn.name == "runtime.NumGoroutine")) = true := by kernel_rfl
  intro g fn hg _
  have := Array.all_eq_true_iff_forall_mem.1 h fn (Array.mem_of_getElem? hg)
  simpa using this
theorem mix : Tryz.prog.follows .mixedOrders = true := by kernel_rfl

theorem symm_ok (args : List Value) (m : Mem) (out : Out) (h : evSymm symB m args = some out) : SoundT Tryz.prog (.call 32 args m) out := by
  unfold evSymm at h
  split at h
  · rename_i v
    obtain ⟨ps, hps, h2⟩ := ob_some h
    obtain ⟨hle, h3⟩ := iteB_some h2
    cases h3
    refine sound_of_below noNum ⟨_, _, Tryz.func32, rfl⟩ fun φ M w args' hR hs hv => ?_
    obtain ⟨v', rfl, hvv⟩ := vrl_one hv
    refine (symmetric_any v' ps w (portsOf_at hps hvv hR hs) (Nat.le_of_ble_eq_true hle)).mono ?_
    rintro e w' ⟨rfl, hb⟩
    exact ⟨_, rfl, .simple rfl, hb⟩
  · cases h
end
end Ev
end Go.Proofs.YtegpikhfnhcjaaaGreat
