/- Lemmas, joined: ShE ShF ShG ShH. -/
import Derived.Test.YtlfojfndkcmfnaaPkLe4
set_option linter.unusedSimpArgs false
set_option linter.unusedVariables false
namespace Go.Proofs.Ytlfojfndkcmfnaa
namespace Sh
open Go Ev

section
variable {P : Program} {lo : Nat} {F : AM} {ω : Om} {s : SS} {f : Fr} {m : Mem} {o : Oper} {c : Prop} {r : SRec}

theorem s_conv (hc : Conc lo F ω s f m) {src dst : TypeId} {x : Operand} {d : TypeDesc} {k k' : IntKind} {n : Int} (hop : o.op = .convert src dst x) (hs : P.underlying src = some d) (hd : P.underlying dst = some (.int k)) (hx : s.get x = some (.i k' n)) : OpS P lo F ω f m o ⟨c, r, .i k (k.wrap n), s⟩ := by
  obtain ⟨a, e1, r1⟩ := hc.get hx
  cases r1.int_inv
  have hev : evOp P f o m = pureA P f o := by unfold evOp; rw [hop]
  refine OpS.idle hc (u := .int k (k.wrap n)) ?_ .i
  rw [hev]
  refine pureA_of (us := [_]) (by rw [hop]; exact vals1 e1) rfl ?_ rfl
  unfold execOp
  rw [hop]
  simp only [e1, Option.getD_some]
  refine (runPure_bind P (fun v => pure (Next.value v)) (a := .int k (k.wrap n)) ?_).trans rfl
  unfold convert
  rw [runPure_bind P _ (runPure_underlying hs), runPure_bind P _ (runPure_underlying hd)]
  rfl
theorem s_mm (hc : Conc lo F ω s f m) {mx : Bool} {x y : Operand} {ats : Array TypeId} {k : IntKind} {n n' : Int} (hop : o.op = .call { callee := .builtin (if mx then .max else .min), args := #[x, y], argTypes := ats }) (hx : s.get x = some (.i k n)) (hy : s.get y = some (.i k n')) :
    OpS P lo F ω f m o ⟨c, r, .i k (if mx then max n n' else min n n'), s⟩ := by
  obtain ⟨a, e1, r1⟩ := hc.get hx
  obtain ⟨b, e2, r2⟩ := hc.get hy
  cases r1.int_inv
  cases r2.int_inv
  have hev : evOp P f o m = pureA P f o := by unfold evOp; rw [hop]; cases mx <;> rfl
  refine OpS.idle hc (u := .int k (if mx then max n n' else min n n')) ?_ .i
  rw [hev]
  refine pureA_of (us := [_, _]) (by rw [hop]; exact vals2 e1 e2) rfl ?_ rfl
  rw [exec_builtin hop]
  have e : (#[x, y] : Array Operand).map (fun x => (f.get x).getD undef) = #[.int k n, .int k n'] := by simp [e1, e2]
  rw [e]
  cases mx
  · show some (Next.value (.int k (if n' < n then n' else n))) = some (Next.value (.int k (min n n')))
    congr 3
    rw [Int.min_def]
    split <;> split <;> omega
  · show some (Next.value (.int k (if n' > n then n' else n))) = some (Next.value (.int k (max n n')))
    congr 3
    rw [Int.max_def]
    split <;> split <;> omega
theorem s_len (hc : Conc lo F ω s f m) {t elem : TypeId} {x : Operand} {n : Nat} {v : SV} (hop : o.op = .call { callee := .builtin .len, args := #[x], argTypes := #[t] }) (hd : P.underlying t = some (.slice elem)) (hx : s.pget x = some v)
    (hv : (∃ z g, v = .sl z n g) ∨ (∃ β p ap, v = .os β p n ap) ∨ (n = 0 ∧ v = .a (.slice none 0 0))) : OpS P lo F ω f m o ⟨c, r, .i .i64 n, s⟩ := by
  obtain ⟨a, e1, r1⟩ := hc.pget hx
  have : ∃ A cp, a = .slice A n cp := by
    rcases hv with ⟨z, g, rfl⟩ | ⟨β, p, cp, rfl⟩ | ⟨rfl, rfl⟩
    · rcases r1.sl_inv with ⟨rfl, rfl | ⟨_, _, _, rfl⟩⟩ | ⟨bk, p, cp, T, N, e, zz, L, rfl, _⟩
      · exact ⟨_, _, rfl⟩
      · exact ⟨_, _, rfl⟩
      · exact ⟨_, _, rfl⟩
    · rcases r1.os_inv with ⟨k, z, c', _, rfl, _⟩ | ⟨_, rfl, rfl, rfl⟩
      · exact ⟨_, _, rfl⟩
      · exact ⟨_, _, rfl⟩
    · cases r1; exact ⟨_, _, rfl⟩
  obtain ⟨A, cp, rfl⟩ := this
  refine OpS.idle hc (u := .int .i64 (.ofNat n)) ?_ .i
  unfold evOp
  rw [hop]
  show (ob (valsA f [x]) fun vs => evLen P f o vs [t]) = _
  rw [vals1 e1]
  show (ob (P.underlying t) _) = _
  rw [hd]
  exact (forceN_eq n fun n => val (.int .i64 (.ofNat n))).trans rfl
theorem natX_rv (hc : Conc lo F ω s f m) {d : Nat} {x : Option Operand} {n : Int} (h : natX s d x = some n) : ∃ us, valsA f x.toList = some us ∧ ((us = [] ∧ n = d ∧ x = none) ∨ ∃ k, us = [.int k n]) := by
  unfold natX at h
  split at h
  · cases h; exact ⟨[], rfl, .inl ⟨rfl, rfl, rfl⟩⟩
  · rename_i y
    split at h
    · rename_i k n' hy
      cases h
      obtain ⟨a, e1, r1⟩ := hc.get hy
      cases r1.int_inv
      exact ⟨[_], vals1 e1, .inr ⟨k, rfl⟩⟩
    · cases h
theorem natIn_of {us : List Value} {n : Int} {d : Nat} (h : (us = [] ∧ n = d) ∨ ∃ k, us = [.int k n]) {hi : Nat} (h0 : 0 ≤ n) (h1 : n ≤ hi) : natIn us.head? d hi = some n.toNat := by
  rcases h with ⟨rfl, rfl⟩ | ⟨k, rfl⟩
  · show some d = _; simp
  · obtain ⟨a, rfl⟩ := Int.eq_ofNat_of_zero_le h0
    show (bif Nat.ble a hi then some a else none) = _
    rw [Nat.ble_eq_true_of_le (by omega)]
    simp
theorem s_cut (hc : Conc lo F ω s f m) {t elem : TypeId} {x : Operand} {lo' hi' : Option Operand} {i : TypeInfo} (hop : o.op = .slice t x lo' hi' none) (hd : P.underlying t = some (.slice elem)) (hi : P.info? elem = some i)
    {v : SV} {q : XR} (hx : s.pget x = some v) {l h : Int}
    (hv : (∃ n g, v = .sl i.size n g ∧ natX s n hi' = some h ∧ natX s 0 lo' = some l ∧ (0 ≤ l ∧ l ≤ h ∧ h ≤ n ∧ 0 < n) ∧ q = ⟨c, ⟨[], [], [], true, false, false, false⟩, .sl i.size (h.toNat - l.toNat) (fun k => g (l.toNat + k)), s⟩) ∨
      (∃ β p n ap b, v = .os β p n ap ∧ lookO s.o β = some b ∧ b.z = i.size ∧ b.bx = false ∧ natX s n hi' = some h ∧ natX s 0 lo' = some l ∧ (0 ≤ l ∧ l ≤ h ∧ h ≤ n) ∧ q = ⟨c, ⟨[β], [], [], false, false, false, false⟩, .os β (p + l.toNat) (h.toNat - l.toNat) (ap && hi'.isNone), s⟩)) : OpS P lo F ω f m o q := by
  obtain ⟨a, e1, r1⟩ := hc.pget hx
  have hev : ∀ {us ws : List Value}, valsA f lo'.toList = some us → valsA f hi'.toList = some ws → evOp P f o m = sliceA P m us.head? ws.head? (.slice elem) a := by
    intro us ws h1 h2
    unfold evOp
    rw [hop]
    show (ob (f.get x) fun x => ob (valsA f lo'.toList) fun lo => ob (valsA f hi'.toList) (evSlice P t m x lo)) = _
    rw [e1]
    show (ob (valsA f lo'.toList) fun lo => ob (valsA f hi'.toList) (evSlice P t m a lo)) = _
    rw [h1]
    show (ob (valsA f hi'.toList) (evSlice P t m a us)) = _
    rw [h2]
    show ob (P.underlying t) _ = _
    rw [hd]
    rfl
  have some1 : ∀ {us ws : List Value} {bk p n cp z : Nat}, a = .slice (some ⟨bk, p, none⟩) n cp → natIn ws.head? n n = some h.toNat → natIn us.head? 0 h.toNat = some l.toNat → ob (m.b.get bk) szOf = some z → (z = i.size ∨ z = 0) →
      sliceA P m us.head? ws.head? (.slice elem) a = some ⟨.slice (some ⟨bk, p + l.toNat * i.size, none⟩) (h.toNat - l.toNat) (capA cp l.toNat), .none, [bk]⟩ := by
    rintro us ws bk p n cp z rfl h1 h2 h3 h4
    show (ob (P.info? elem) fun i => ob (ob (m.b.get bk) szOf) fun z => sliceA1 ⟨bk, p, none⟩ z i.size n us.head? ws.head? (capA cp)) = _
    rw [hi]
    show (ob (ob (m.b.get bk) szOf) fun z => sliceA1 ⟨bk, p, none⟩ z i.size n us.head? ws.head? (capA cp)) = _
    rw [h3]
    show sliceA1 ⟨bk, p, none⟩ z i.size n us.head? ws.head? (capA cp) = _
    unfold sliceA1
    rw [iteB_eq, if_pos (by rcases h4 with rfl | rfl <;> simp [Nat.beq_refl]), h1]
    show (ob (natIn us.head? 0 h.toNat) fun l => sliceA2 ⟨bk, p, none⟩ l h.toNat i.size (capA cp l)) = _
    rw [h2]
    show sliceA2 ⟨bk, p, none⟩ l.toNat h.toNat i.size (capA cp l.toNat) = _
    unfold sliceA2
    rw [forceN_eq, forceN_eq]
    rfl
  rcases hv with ⟨n, g, rfl, hh, hl, ⟨b1, b2, b3, b4⟩, rfl⟩ | ⟨β, p, n, ap, b, rfl, hb, hz, hbx, hh, hl, ⟨b1, b2, b3⟩, rfl⟩
  · obtain ⟨us, v1, w1⟩ := natX_rv hc hl
    obtain ⟨ws, v2, w2⟩ := natX_rv hc hh
    have n1 : natIn ws.head? n n = some h.toNat := natIn_of (w2.imp (fun q => ⟨q.1, q.2.1⟩) id) (by omega) b3
    have n2 : natIn us.head? 0 h.toNat = some l.toNat := natIn_of (w1.imp (fun q => ⟨q.1, q.2.1⟩) id) b1 (by omega)
    rcases r1.sl_inv with ⟨rfl, _⟩ | ⟨bk, p, cp, T, N, e, zz, L, rfl, g1, g2, g3, g4, g5, g6, g7⟩
    · exact absurd b4 (Nat.lt_irrefl _)
    · refine OpS.pure hc ((hev v1 v2).trans (some1 rfl n1 n2 (z := zz) (by rw [hc.sub _ _ g1]; rfl) g2)) ?_ (fun y hy => by simp at hy; subst hy; exact .inr ⟨rfl, _, g1⟩)
      have hk : ∀ k, k < h.toNat - l.toNat → l.toNat + k < n := fun k hk => by omega
      have hadd : ∀ k, p + l.toNat * i.size + k * i.size = p + (l.toNat + k) * i.size := fun k => by rw [Nat.add_mul]; omega
      have hN : p + l.toNat * i.size + (h.toNat - l.toNat) * i.size ≤ N := by
        rw [hadd]
        have := Nat.mul_le_mul_right i.size (show l.toNat + (h.toNat - l.toNat) ≤ n by omega)
        omega
      exact .sl (L := fun k => L (l.toNat + k)) g1 g2 hN (fun k q => g4 _ (hk k q)) (fun k q j hj => by rw [hadd]; exact g5 _ (hk k q) j hj) (fun k q => g6 _ (hk k q)) (fun k q => g7 _ (hk k q))
  · obtain ⟨us, v1, w1⟩ := natX_rv hc hl
    obtain ⟨ws, v2, w2⟩ := natX_rv hc hh
    have n1 : natIn ws.head? n n = some h.toNat := natIn_of (w2.imp (fun q => ⟨q.1, q.2.1⟩) id) (by omega) b3
    have n2 : natIn us.head? 0 h.toNat = some l.toNat := natIn_of (w1.imp (fun q => ⟨q.1, q.2.1⟩) id) b1 (by omega)
    rcases r1.os_inv with ⟨k, z, cp, hk, rfl, hcu⟩ | ⟨hk, rfl, rfl, rfl⟩
    · obtain ⟨rfl, T, L, g1, _⟩ := hc.ownAt hb hk
      rw [hbx] at g1
      refine OpS.pure hc ((hev v1 v2).trans (some1 rfl n1 n2 (z := b.z) (by rw [g1]; rfl) (.inl hz))) ?_ (fun y hy => by simp at hy; subst hy; exact .inl ⟨β, _, by simp, hk⟩)
      rw [← hz, ← Nat.add_mul]
      refine .os hk fun hap => ?_
      rw [Bool.and_eq_true] at hap
      have hhn : h = n := by
        rcases w2 with ⟨_, q, _⟩ | ⟨_, q⟩
        · exact q
        · have : hi' = none := by simpa using hap.2
          rw [this] at v2
          cases v2
          cases q
      rcases hcu hap.1 with rfl | ⟨rfl, hlt⟩
      · left; show capA CU _ = CU; unfold capA; rw [Nat.beq_refl]; rfl
      · right
        refine ⟨?_, by omega⟩
        show capA cp _ = _
        unfold capA
        rw [iteB_eq, if_neg (fun q => by have := Nat.eq_of_beq_eq_true q; omega)]
        show cp - l.toNat = _
        rw [hhn]; simp
    · have hl0 : l = 0 := by omega
      have hh0 : h = 0 := by omega
      subst hl0 hh0
      refine OpS.idle hc (u := .slice none 0 0) ?_ (.os0 hk)
      rw [hev v1 v2]
      show (ob (P.info? elem) fun _ => ob (natIn ws.head? 0 0) fun _ => ob (natIn us.head? 0 0) fun _ => (some ⟨.slice none 0 0, .none, []⟩ : Option R)) = _
      rw [hi, n1]
      show (ob (natIn us.head? 0 0) fun _ => (some ⟨.slice none 0 0, .none, []⟩ : Option R)) = _
      rw [show natIn us.head? 0 0 = some (Int.toNat 0) from n2]
      rfl
end
end Sh
end Go.Proofs.Ytlfojfndkcmfnaa
namespace Go.Proofs.Ytlfojfndkcmfnaa
namespace Sh
open Go Ev

section
variable {P : Program} {lo : Nat} {F : AM} {ω : Om} {s : SS} {f : Fr} {m : Mem} {o : Oper} {c : Prop} {r : SRec}

theorem s_cutA (hc : Conc lo F ω s f m) {t elem : TypeId} {x : Operand} {lo' hi' : Option Operand} {i : TypeInfo} {n : Nat} (hop : o.op = .slice t x lo' hi' none) (hd : P.underlying t = some (.array n elem)) (hi : P.info? elem = some i)
    {β : Nm} {b : OB} (hx : s.get x = some (.pt β 0 0)) {l h : Int} (hb : lookO s.o β = some b) (hz : b.z = i.size) (hbx : b.bx = true) (hh : natX s n hi' = some h) (hl : natX s 0 lo' = some l) (hq : 0 ≤ l ∧ l ≤ h ∧ h ≤ n ∧ n ≤ 1000000) :
    OpS P lo F ω f m o ⟨c, ⟨[β], [], [], false, false, false, false⟩, .os β l.toNat (h.toNat - l.toNat) false, s⟩ := by
  obtain ⟨a, e1, r1⟩ := hc.get hx
  obtain ⟨b1, b2, b3, b4⟩ := hq
  obtain ⟨us, v1, w1⟩ := natX_rv hc hl
  obtain ⟨ws, v2, w2⟩ := natX_rv hc hh
  have n1 : natIn ws.head? n n = some h.toNat := natIn_of (w2.imp (fun q => ⟨q.1, q.2.1⟩) id) (by omega) b3
  have n2 : natIn us.head? 0 h.toNat = some l.toNat := natIn_of (w1.imp (fun q => ⟨q.1, q.2.1⟩) id) b1 (by omega)
  obtain ⟨k, z, hk, rfl⟩ := r1.pt_inv
  obtain ⟨rfl, T, L, g1, _⟩ := hc.ownAt hb hk
  rw [hbx] at g1
  refine OpS.pure hc (u := .slice (some ⟨k, l.toNat * b.z, none⟩) (h.toNat - l.toNat) (n - l.toNat)) (ft := [k]) ?_ (RV.os (c := n - l.toNat) hk (fun q => by cases q)) (fun y hy => by simp at hy; subst hy; exact .inl ⟨β, _, by simp, hk⟩)
  unfold evOp
  rw [hop]
  show (ob (f.get x) fun x => ob (valsA f lo'.toList) fun lo => ob (valsA f hi'.toList) (evSlice P t m x lo)) = _
  rw [e1]
  show (ob (valsA f lo'.toList) fun lo => ob (valsA f hi'.toList) (evSlice P t m _ lo)) = _
  rw [v1]
  show (ob (valsA f hi'.toList) (evSlice P t m _ us)) = _
  rw [v2]
  show ob (P.underlying t) _ = _
  rw [hd]
  show (ob (P.info? elem) fun i => ob (ob (m.b.get k) szOf) fun z => iteB (Nat.beq z 0 && Nat.ble n 1000000) (sliceA1 ⟨k, 0 * b.z + 0, none⟩ z i.size n us.head? ws.head? (Nat.sub n)) none) = _
  rw [hi, g1]
  show iteB (Nat.beq 0 0 && Nat.ble n 1000000) (sliceA1 ⟨k, 0 * b.z + 0, none⟩ 0 i.size n us.head? ws.head? (Nat.sub n)) none = _
  rw [iteB_eq, if_pos (by rw [Nat.ble_eq_true_of_le b4]; rfl)]
  unfold sliceA1
  rw [iteB_eq, if_pos (by simp), n1]
  show (ob (natIn us.head? 0 h.toNat) fun l => sliceA2 ⟨k, 0 * b.z + 0, none⟩ l h.toNat i.size (Nat.sub n l)) = _
  rw [n2]
  show sliceA2 ⟨k, 0 * b.z + 0, none⟩ l.toNat h.toNat i.size (Nat.sub n l.toNat) = _
  unfold sliceA2
  rw [forceN_eq, forceN_eq, hz]
  show some (⟨.slice (some ⟨k, 0 * i.size + 0 + l.toNat * i.size, none⟩) _ _, _, _⟩ : R) = _
  rw [show 0 * i.size + 0 + l.toNat * i.size = l.toNat * i.size by omega]
  rfl

/-- Cells of a value. -/
theorem one_cell : ∀ (v : SV) {ω : Om} {u : Value}, RV F ω v u → one1 v = true → u.cells.toList = [u] ∧ ∀ L, allGood L = true → allGood (u :: L) = true
  | .ex Q w, _, _, .ex _ _ h, h1 => one_cell w h h1
  | .i .., _, _, .i, _ => ⟨rfl, fun _ h => h⟩
  | .b .., _, _, .b, _ => ⟨rfl, fun _ h => h⟩
  | .a v, _, _, .a hs, _ => by
    cases v <;> first | exact ⟨rfl, fun _ h => h⟩ | (exact absurd hs (by simp [Ev.simple]))
  | .sl .., _, _, .sl0 h0, _ => by
    rcases h0 with rfl | ⟨_, _, _, rfl⟩ <;> exact ⟨rfl, fun _ h => h⟩
  | .sl .., _, _, .sl .., _ => ⟨rfl, fun _ h => h⟩
  | .rf .., _, _, .rf .., _ => ⟨rfl, fun _ h => h⟩
  | .fn .., _, _, .fn .., _ => ⟨rfl, fun _ h => h⟩
  | .pt .., _, _, .pt .., _ => ⟨rfl, fun _ h => h⟩
  | .os .., _, _, .os .., _ => ⟨rfl, fun _ h => h⟩
  | .os .., _, _, .os0 .., _ => ⟨rfl, fun _ h => h⟩
theorem cells_rvl {v : SV} {u : Value} (h : RV F ω v u) (h1 : v.cells.all one1 = true) : RVL F ω v.cells u.cells.toList ∧ allGood u.cells.toList = true := by
  have good : ∀ {l : List SV} {L : List Value}, RVL F ω l L → l.all one1 = true → allGood L = true := by
    intro l L hl
    induction L generalizing l with
    | nil => intro _; rfl
    | cons u L ih =>
      cases hl with
      | cons a b =>
        intro hq
        simp only [List.all_cons, Bool.and_eq_true] at hq
        exact (one_cell _ a hq.1).2 _ (ih b hq.2)
  have main : RVL F ω v.cells u.cells.toList := by
    have single : v.cells = [v] → RVL F ω v.cells u.cells.toList := fun e => by
      rw [e] at h1 ⊢
      simp only [List.all_cons, Bool.and_eq_true] at h1
      rw [(one_cell v h h1.1).1]
      exact .cons h .nil
    cases v with
    | ag c => obtain ⟨L, rfl, hl⟩ := h.ag_inv; simpa [SV.cells, Value.cells] using hl
    | _ => exact single rfl
  exact ⟨main, good main h1⟩
/-- Parts of a built value. -/
theorem fill_rvl (hc : Conc lo F ω s f m) {place : Nat → Option (Nat × Nat)} : ∀ {ps : List (Nat × Operand)} {qs : List (Nat × Nat × Operand)} {l l' : List SV} {L : List Value},
    ps.mapM (fun p => (place p.1).map fun q => (q.1, q.2, p.2)) = some qs → RVL F ω l L → l.all one1 = true → fill s l qs = some l' →
    ∃ vs L', partsA f ps = some vs ∧ fillA place L vs = some L' ∧ RVL F ω l' L' ∧ l'.all one1 = true
  | [], qs, l, l', L, h, hl, h1, hf => by
    cases h
    cases hf
    exact ⟨[], L, rfl, rfl, hl, h1⟩
  | (j, x) :: ps, qs, l, l', L, h, hl, h1, hf => by
    rw [List.mapM_cons] at h
    cases hp : place j with
    | none => simp [hp] at h
    | some q =>
      cases hm : ps.mapM (fun p => (place p.1).map fun q => (q.1, q.2, p.2)) with
      | none => simp [hp, hm] at h
      | some qs' =>
        simp [hp, hm] at h
        subst h
        unfold fill at hf
        split at hf
        · cases hf
        · rename_i v hv
          split at hf
          · rename_i hq
            obtain ⟨u, e1, r1⟩ := hc.get hv
            obtain ⟨k1, k2⟩ := cells_rvl r1 hq.2.2
            have hlen : u.cells.toList.length = q.2 := by rw [← k1.length]; exact hq.1
            have hsp : RVL F ω (splice l q.1 v.cells) (L.take q.1 ++ u.cells.toList ++ L.drop (q.1 + q.2)) := by
              unfold splice
              rw [hq.1]
              exact ((hl.take _).append k1).append (hl.drop _)
            have hsa : (splice l q.1 v.cells).all one1 = true := by
              unfold splice
              rw [List.all_append, List.all_append, all_take h1, all_drop h1, hq.2.2]
              rfl
            obtain ⟨vs, L', t1, t2, t3, t4⟩ := fill_rvl hc hm hsp hsa hf
            refine ⟨(j, u) :: vs, L', ?_, ?_, t3, t4⟩
            · unfold partsA
              rw [e1]
              simp only [t1]
            · unfold fillA
              rw [hp]
              simp only
              rw [hlen, Nat.beq_refl, k2, Nat.ble_eq_true_of_le (by rw [← hl.length]; exact hq.2.1)]
              exact t2
          · cases hf
end
end Sh
end Go.Proofs.Ytlfojfndkcmfnaa
namespace Go.Proofs.Ytlfojfndkcmfnaa
namespace Sh
open Go Ev

section
variable {P : Program} {lo : Nat} {F : AM} {ω : Om} {s : SS} {f : Fr} {m : Mem} {o : Oper} {c : Prop} {r : SRec}

theorem app_new (m : Mem) (x : ABlk) : m.app (.new x) = ⟨m.next + 1, T.set (Nat.succ m.next) m.b m.next (some x), m.low⟩ := by
  obtain ⟨n, b, l⟩ := m; exact appE_eq n b l (.new x)
theorem app_upd (m : Mem) (i : Nat) (x : ABlk) : m.app (.upd i x) = ⟨m.next, T.set (Nat.succ i) m.b i (some x), Nat.min m.low i⟩ := by
  obtain ⟨n, b, l⟩ := m; exact appE_eq n b l (.upd i x)
theorem app_move (m : Mem) (i : Nat) (x : ABlk) : m.app (.move i x) = ⟨m.next + 1, T.set (Nat.succ m.next) (T.set (Nat.succ i) m.b i none) m.next (some x), Nat.min m.low i⟩ := by
  obtain ⟨n, b, l⟩ := m; exact appE_eq n b l (.move i x)

def omSet (ω : Om) (β : Nm) (k z : Nat) : Om := fun γ => if γ = β then some (some (k, z)) else ω γ
theorem omSet_le {β : Nm} {k z : Nat} (h : ω β = none) : ω.le (omSet ω β k z) := fun γ x hx => by
  unfold omSet
  split
  · rename_i q; subst q; rw [h] at hx; cases hx
  · exact hx
theorem omSet_self {β : Nm} {k z : Nat} : omSet ω β k z β = some (some (k, z)) := by simp [omSet]
theorem omSet_ne {β γ : Nm} {k z : Nat} (h : γ ≠ β) : omSet ω β k z γ = ω γ := by simp [omSet, h]

theorem OwnOk.mono {ψ : Om} {m' : Mem} {β : Nm} {b : OB} (h : OwnOk F ω m β b) (hle : ω.le ψ) (hk : ∀ k z, ω β = some (some (k, z)) → m'.b.get k = m.b.get k) : OwnOk F ψ m' β b := by
  rcases h with ⟨k, T, L, h1, h0, h2, h3⟩ | ⟨h1, h2⟩
  · exact .inl ⟨k, T, L, hle _ _ h1, h0, (hk _ _ h1).trans h2, fun i hi => ⟨(h3 i hi).1, (h3 i hi).2.1.mono (Le.refl _) hle, (h3 i hi).2.2⟩⟩
  · exact .inr ⟨hle _ _ h1, h2⟩

theorem newOK_look {e β : Nat} (h : newOK s e β = true) : look s.o β = none := by
  have := (Bool.and_eq_true _ _ ▸ h : _ ∧ _).1; simpa using this
theorem newOK_e {e β : Nat} (h : newOK s e β = true) : e ≠ CU := by
  have := of_decide_eq_true (Bool.and_eq_true _ _ ▸ h : _ ∧ _).2
  intro q; rw [q] at this; exact absurd this (by decide)

/-- What there is of own blocks after a change. -/
theorem own_at {β : Nm} {b : Option OB} (h : β.2 = 0 ∨ ∃ c, lookO s.o β = some c) (γ : Nm) : lookO (s.own β b).o γ = if β = γ then b else lookO s.o γ := by
  obtain ⟨b1, b2⟩ := β
  obtain ⟨c1, c2⟩ := γ
  show (match (if b1 = c1 then some (famSet (look s.o b1) b2 b) else look s.o c1) with | some F => F.at c2 | none => none) = _
  by_cases e : b1 = c1
  · subst e
    rw [if_pos rfl]
    unfold lookO at h ⊢
    simp only at h ⊢
    cases hl : look s.o b1 with
    | none =>
      rw [hl] at h
      have hz : b2 = 0 := h.elim id fun ⟨c, q⟩ => by cases q
      subst hz
      simp only [famSet, Fam.at]
      by_cases q : c2 = 0
      · subst q; simp
      · rw [if_neg q, if_neg (by simpa using Ne.symm q)]
    | some G =>
      rw [hl] at h
      cases G with
      | many g =>
        simp only [famSet, Fam.at]
        by_cases q : c2 = b2
        · subst q; simp
        · rw [if_neg q, if_neg (by simpa using Ne.symm q)]
      | one x =>
        have hz : b2 = 0 := h.elim id fun ⟨c, q⟩ => by
          simp only [Fam.at] at q
          split at q
          · assumption
          · cases q
        subst hz
        simp only [famSet, Fam.at]
        by_cases q : c2 = 0
        · subst q; simp
        · rw [if_neg q, if_neg (by simpa using Ne.symm q), if_neg q]
  · rw [if_neg e, if_neg (by simp [e])]
    rfl
theorem own_none {β : Nm} {b : Option OB} {c : Nat} (h : look (s.own β b).o c = none) : β.1 ≠ c ∧ look s.o c = none := by
  have h : (if β.1 = c then some (famSet (look s.o β.1) β.2 b) else look s.o c) = none := h
  split at h
  · cases h
  · rename_i q; exact ⟨q, h⟩
/-- A new own block. -/
theorem Conc.new (hc : Conc lo F ω s f m) {d : Nat} {b : OB} (hn : look s.o d = none) (he : b.e ≠ CU) {Tb : Ev.T Value} {L : Nat → List Value}
    (hL : ∀ i, i < b.n → (L i).length = b.z ∧ RVL F ω (b.g i) (L i) ∧ (b.g i).all one1 = true ∧ ∀ j, j < b.z → Tb.get (i * b.z + j) = (L i)[j]?) :
    Conc lo F (omSet ω (d, 0) m.next b.z) (s.own (d, 0) (some b)) f (m.app (.new (.cells Tb (b.n * b.z) b.e (if b.bx then 0 else b.z)))) := by
  have hω := hc.dom (d, 0) hn
  have hle := omSet_le (k := m.next) (z := b.z) hω
  rw [app_new]
  have hget : ∀ i, (T.set (Nat.succ m.next) m.b m.next (some (.cells Tb (b.n * b.z) b.e (if b.bx then 0 else b.z)))).get i = if i = m.next then some (.cells Tb (b.n * b.z) b.e (if b.bx then 0 else b.z)) else m.b.get i := fun i => T.set_at _ _ _ _
  have hold : ∀ {i x}, m.b.get i = some x → i < m.next := fun {i x} h => hc.wf i x h
  refine ⟨fun i x hx => ?_, hc.low, by show lo ≤ m.next + 1; have := hc.nxt; omega, fun i x hx => ?_, fun γ dd hd => ?_, fun γ hγ => ?_, ?_, ?_, fun t v hv => ?_⟩
  · have hx : (T.set (Nat.succ m.next) m.b m.next (some (.cells Tb (b.n * b.z) b.e (if b.bx then 0 else b.z)))).get i = some x := hx
    rw [hget] at hx
    show i < m.next + 1
    split at hx
    · omega
    · have := hold hx; omega
  · show (T.set (Nat.succ m.next) m.b m.next (some (.cells Tb (b.n * b.z) b.e (if b.bx then 0 else b.z)))).get i = some x
    have := hc.sub i x hx
    rw [hget, if_neg (by have := hold this; omega)]
    exact this
  · have hd' : (if (d, 0) = γ then some b else lookO s.o γ) = some dd := by rw [← own_at (.inl rfl)]; exact hd
    clear hd
    split at hd'
    · rename_i q; subst q; have hd2 := Option.some.inj hd'; subst hd2
      exact .inl ⟨m.next, Tb, L, omSet_self, he, by show (T.set (Nat.succ m.next) m.b m.next _).get m.next = _; rw [hget, if_pos rfl], fun i hi => ⟨(hL i hi).1, (hL i hi).2.1.mono (Le.refl _) hle, (hL i hi).2.2⟩⟩
    · exact (hc.own γ dd hd').mono hle fun k z hk => by show (T.set (Nat.succ m.next) m.b m.next _).get k = _; rw [hget, if_neg (by have := (hc.apart γ k z hk).2.2; omega)]
  · obtain ⟨q1, q2⟩ := own_none hγ
    rw [omSet_ne (fun e => q1 (by rw [e]))]; exact hc.dom γ q2
  · intro γ δ k z k' z' h1 h2 hne
    unfold omSet at h1 h2
    split at h1 <;> split at h2
    · rename_i a b; exact absurd (a.trans b.symm) hne
    · cases h1; have := (hc.apart δ k' z' h2).2.2; omega
    · cases h2; have := (hc.apart γ k z h1).2.2; omega
    · exact hc.inj γ δ k z k' z' h1 h2 hne
  · intro γ k z h1
    unfold omSet at h1
    split at h1
    · cases h1
      refine ⟨?_, hc.nxt, Nat.lt_succ_self _⟩
      cases hF : F m.next with
      | none => rfl
      | some x => have := hold (hc.sub _ _ hF); omega
    · obtain ⟨a, b, d⟩ := hc.apart γ k z h1
      exact ⟨a, b, Nat.lt_succ_of_lt d⟩
  · obtain ⟨u, h1, h2⟩ := hc.fr t v hv
    exact ⟨u, h1, h2.mono (Le.refl _) hle⟩
theorem OpS.new (hc : Conc lo F ω s f m) {d : Nat} {b : OB} (hn : newOK s b.e d = true) {Tb : Ev.T Value} {L : Nat → List Value} {u : Value} {v : SV}
    (hev : evOp P f o m = some ⟨u, .new (.cells Tb (b.n * b.z) b.e (if b.bx then 0 else b.z)), []⟩)
    (hL : ∀ i, i < b.n → (L i).length = b.z ∧ RVL F ω (b.g i) (L i) ∧ (b.g i).all one1 = true ∧ ∀ j, j < b.z → Tb.get (i * b.z + j) = (L i)[j]?)
    (hv : RV F (omSet ω (d, 0) m.next b.z) v u) : OpS P lo F ω f m o ⟨c, ⟨[], [], [(d, 0)], false, false, false, false⟩, v, s.own (d, 0) (some b)⟩ := by
  have hω := hc.dom (d, 0) (newOK_look hn)
  refine ⟨_, omSet ω (d, 0) m.next b.z, hev, omSet_le hω, hc.new (newOK_look hn) (newOK_e hn) hL, hv, fun γ k z hk => ?_, fun x hx => (by cases hx), fun x hx => (by cases hx), fun q => (by cases q), fun _ => ⟨(d, 0), b.z, by simp, omSet_self⟩⟩
  unfold omSet at hk
  split at hk
  · cases hk; exact .inr (Nat.le_refl _)
  · exact .inl hk

theorem s_box (hc : Conc lo F ω s f m) {t : TypeId} {x : Operand} {β : Nat} {v : SV} (hop : o.op = .box t x) (hx : s.get x = some v) (hn : newOK s t β = true) (h1 : v.cells.all one1 = true) :
    OpS P lo F ω f m o ⟨c, ⟨[], [], [(β, 0)], false, false, false, false⟩, .pt (β, 0) 0 0, s.own (β, 0) (some ⟨t, true, v.cells.length, 1, fun _ => v.cells⟩)⟩ := by
  obtain ⟨u, e, hr⟩ := hc.get hx
  obtain ⟨k1, k2⟩ := cells_rvl hr h1
  have hlen := k1.length
  refine OpS.new hc (b := ⟨t, true, v.cells.length, 1, fun _ => v.cells⟩) hn (Tb := tOf u.cells.toList) (L := fun _ => u.cells.toList) (u := .pointer (some ⟨m.next, 0, none⟩)) ?_ (fun i hi => ⟨hlen.symm, k1, h1, fun j _ => ?_⟩) ?_
  · unfold evOp
    rw [hop]
    show ob (f.get x) (evBox t m) = _
    rw [e]
    show iteB (allGood u.cells.toList) _ none = _
    rw [iteB_eq, if_pos k2]
    show some (⟨_, .new (.cells (tOf u.cells.toList) u.cells.toList.length t 0), []⟩ : R) = some ⟨_, .new (.cells _ (1 * v.cells.length) t 0), []⟩
    rw [Nat.one_mul, hlen]
  · have : i = 0 := Nat.lt_one_iff.1 hi
    subst this
    rw [Nat.zero_mul, Nat.zero_add]
    exact tOf_get? _ _
  · have := RV.pt (F := F) (ω := omSet ω (β, 0) m.next v.cells.length) (i := 0) (j := 0) omSet_self
    simpa using this

theorem repl_get (z : List Value) : ∀ (n i j : Nat), i < n → j < z.length → (repl n z)[i * z.length + j]? = z[j]?
  | 0, i, j, h, _ => absurd h (Nat.not_lt_zero _)
  | n + 1, 0, j, _, hj => by rw [repl_succ, Nat.zero_mul, Nat.zero_add, List.getElem?_append_left hj]
  | n + 1, i + 1, j, h, hj => by
    rw [repl_succ, List.getElem?_append_right (by rw [Nat.succ_mul]; omega), show (i + 1) * z.length + j - z.length = i * z.length + j by rw [Nat.succ_mul]; omega]
    exact repl_get z n i j (by omega) hj
theorem map_one1 {l : List Value} (h : l.all simple = true) : (l.map ofV).all one1 = true := by
  rw [List.all_map]
  refine List.all_eq_true.2 fun x hx => ?_
  have := List.all_eq_true.1 h x hx
  cases x <;> first | rfl | (exact absurd this (by simp [Ev.simple]))
theorem zeroA_simple {i : TypeInfo} {z : List Value} (h : zeroA i = some z) : z.all simple = true ∧ z.length = i.size := by
  unfold zeroA at h
  obtain ⟨v, h1, h2⟩ := ob_some h
  obtain ⟨h3, h4⟩ := iteB_some h2
  cases h4
  rw [Bool.and_eq_true] at h3
  refine ⟨?_, Nat.eq_of_beq_eq_true h3.2⟩
  have h5 := h3.1
  unfold atomA at h5
  split at h5
  · exact h5
  · rename_i hne
    cases v <;> first | exact absurd rfl (hne _) | simpa [Value.cells] using h5
theorem s_alloc (hc : Conc lo F ω s f m) {t : TypeId} {β n : Nat} {i : TypeInfo} {z zj : List Value} (hop : o.op = .alloc t) (hi : P.info? t = some i) (hz : zeroA i = some z) (hr : z = repl n zj) (hs : zj.all simple = true) (hn : newOK s t β = true) :
    OpS P lo F ω f m o ⟨c, ⟨[], [], [(β, 0)], false, false, false, false⟩, .pt (β, 0) 0 0, s.own (β, 0) (some ⟨t, true, (zj.map ofV).length, n, fun _ => zj.map ofV⟩)⟩ := by
  refine OpS.new hc (b := ⟨t, true, (zj.map ofV).length, n, fun _ => zj.map ofV⟩) hn (Tb := tOf z) (L := fun _ => zj) (u := .pointer (some ⟨m.next, 0, none⟩)) ?_ (fun k hk => ⟨by simp, ofV_rvl hs, map_one1 hs, fun j hj => ?_⟩) ?_
  · unfold evOp
    rw [hop]
    show ob (P.info? t) (evAlloc t m) = _
    rw [hi]
    show ob (zeroA i) _ = _
    rw [hz]
    show some (⟨_, .new (.cells (tOf z) z.length t 0), []⟩ : R) = some ⟨_, .new (.cells _ (n * (zj.map ofV).length) t 0), []⟩
    rw [hr, repl_length, List.length_map]
  · rw [tOf_get?, hr]
    show (repl n zj)[k * (zj.map ofV).length + j]? = _
    rw [List.length_map]
    exact repl_get zj n k j hk (by simpa using hj)
  · have := RV.pt (F := F) (ω := omSet ω (β, 0) m.next (zj.map ofV).length) (i := 0) (j := 0) omSet_self
    simpa using this
theorem s_mk (hc : Conc lo F ω s f m) {t elem : TypeId} {x y : Operand} {β : Nat} {i : TypeInfo} {z : List Value} {k k' : IntKind} {n : Int} (hop : o.op = .makeSlice t x y) (hd : P.underlying t = some (.slice elem)) (hi : P.info? elem = some i) (hz : zeroA i = some z)
    (hx : s.get x = some (.i k n)) (hy : s.get y = some (.i k' n)) (h0 : 0 ≤ n) (hb : i.bytes * n.toNat ≤ 1000000) (hb' : n.toNat ≤ 1000000) (hn : newOK s elem β = true) :
    OpS P lo F ω f m o ⟨c, ⟨[], [], [(β, 0)], false, false, false, false⟩, .os (β, 0) 0 n.toNat true, s.own (β, 0) (some ⟨elem, false, i.size, n.toNat, fun _ => z.map ofV⟩)⟩ := by
  obtain ⟨u1, e1, r1⟩ := hc.get hx
  obtain ⟨u2, e2, r2⟩ := hc.get hy
  cases r1.int_inv
  cases r2.int_inv
  obtain ⟨a, rfl⟩ := Int.eq_ofNat_of_zero_le h0
  rw [Int.toNat_natCast] at *
  obtain ⟨hs, hl⟩ := zeroA_simple hz
  refine OpS.new hc (b := ⟨elem, false, i.size, a, fun _ => z.map ofV⟩) hn (Tb := tOf (repl a z)) (L := fun _ => z) (u := .slice (some ⟨m.next, 0, none⟩) a a) ?_ (fun q hq => ⟨hl, ofV_rvl hs, map_one1 hs, fun j hj => ?_⟩) ?_
  · unfold evOp
    rw [hop]
    show (ob (f.get x) fun l => ob (f.get y) (evMakeSlice P t m l)) = _
    rw [e1]
    show (ob (f.get y) (evMakeSlice P t m _)) = _
    rw [e2]
    show (ob (P.underlying t) fun d => evMakeSlice1 P m a a d) = _
    rw [hd]
    show (ob (P.info? elem) fun i => ob (zeroA i) fun z => evMakeSlice2 m elem a a i z) = _
    rw [hi]
    show (ob (zeroA i) fun z => evMakeSlice2 m elem a a i z) = _
    rw [hz]
    show evMakeSlice2 m elem a a i z = _
    unfold evMakeSlice2
    rw [iteB_eq, if_pos (by rw [Nat.ble_eq_true_of_le (Nat.le_refl a), Nat.ble_eq_true_of_le hb, Nat.ble_eq_true_of_le hb']; rfl)]
    show some (⟨_, .new (.cells (tOf (repl a z)) (repl a z).length elem i.size), []⟩ : R) = some ⟨_, .new (.cells _ (a * i.size) elem i.size), []⟩
    rw [repl_length, hl]
  · rw [tOf_get?]
    show (repl a z)[q * i.size + j]? = _
    rw [← hl]
    exact repl_get z a q j hq (by rw [hl]; exact hj)
  · have := RV.os (F := F) (ω := omSet ω (β, 0) m.next i.size) (o := 0) (n := a) (c := a) (ap := true) omSet_self (fun _ => .inr ⟨rfl, by show a < 1208925819614629174706176; omega⟩)
    simpa using this
end
end Sh
end Go.Proofs.Ytlfojfndkcmfnaa
namespace Go.Proofs.Ytlfojfndkcmfnaa
namespace Sh
open Go Ev

section
variable {P : Program} {lo : Nat} {F : AM} {ω : Om} {s : SS} {f : Fr} {m : Mem} {o : Oper} {c : Prop} {r : SRec}

theorem splice_length {l new : List SV} {p : Nat} (h : p + new.length ≤ l.length) : (splice l p new).length = l.length := by
  unfold splice; simp; omega
theorem fill_length : ∀ {qs : List (Nat × Nat × Operand)} {l l' : List SV}, fill s l qs = some l' → l'.length = l.length
  | [], l, l', h => by cases h; rfl
  | (p, n, x) :: qs, l, l', h => by
    unfold fill at h
    split at h
    · cases h
    · split at h
      · rename_i hq
        rw [fill_length h, splice_length (by rw [hq.1]; exact hq.2.1)]
      · cases h
theorem s_build (hc : Conc lo F ω s f m) {t : TypeId} {parts : Array (Nat × Operand)} {i : TypeInfo} {z : List Value} {d : TypeDesc} {place : Nat → Option (Nat × Nat)} {qs : List (Nat × Nat × Operand)} {l : List SV}
    (hop : o.op = .build t parts) (hi : P.info? t = some i) (hz : zeroA i = some z) (hd : P.underlying t = some d)
    (hp : (∃ fs pl, d = .struct fs ∧ placesA P fs.toList = some pl ∧ place = fun k => pl[k]?) ∨ (∃ n elem j, d = .array n elem ∧ P.info? elem = some j ∧ place = fun k => some (k * j.size, j.size)))
    (hq : parts.toList.mapM (fun p => (place p.1).map fun q => (q.1, q.2, p.2)) = some qs) (hf : fill s (z.map ofV) qs = some l) : OpS P lo F ω f m o ⟨c, r, .ag l, s⟩ := by
  obtain ⟨hs, _⟩ := zeroA_simple hz
  obtain ⟨vs, L, t1, t2, t3, _⟩ := fill_rvl hc hq (ofV_rvl hs) (map_one1 hs) hf
  refine OpS.idle hc (u := .agg L.toArray) ?_ (.ag t3)
  unfold evOp
  rw [hop]
  show ob (partsA f parts.toList) (evBuild P t) = _
  rw [t1]
  show (ob (P.info? t) fun i => ob (zeroA i) fun z => ob (P.underlying t) fun d => evBuild1 P z vs d) = _
  rw [hi]
  show (ob (zeroA i) fun z => ob (P.underlying t) fun d => evBuild1 P z vs d) = _
  rw [hz]
  show (ob (P.underlying t) fun d => evBuild1 P z vs d) = _
  rw [hd]
  rcases hp with ⟨fs, pl, rfl, h1, rfl⟩ | ⟨n, elem, j, rfl, h1, rfl⟩
  · show (ob (placesA P fs.toList) fun pl => ob (fillA (fun k => pl[k]?) z vs) fun l => val (.agg l.toArray)) = _
    rw [h1]
    show (ob (fillA (fun k => pl[k]?) z vs) fun l => val (.agg l.toArray)) = _
    rw [t2]
    rfl
  · show (ob (P.info? elem) fun j => ob (fillA (fun k => some (k * j.size, j.size)) z vs) fun l => val (.agg l.toArray)) = _
    rw [h1]
    show (ob (fillA (fun k => some (k * j.size, j.size)) z vs) fun l => val (.agg l.toArray)) = _
    rw [t2]
    rfl
theorem chunk_length {α : Type} {l : List α} {k z n : Nat} (h : l.length = n * z) (hk : k < n) : ((l.drop (k * z)).take z).length = z := by
  have := mul_in (z := z) hk
  simp; omega
theorem repl_simple {z : List Value} (h : z.all simple = true) : ∀ n, (repl n z).all simple = true
  | 0 => rfl
  | n + 1 => by rw [repl_succ, List.all_append, h, repl_simple h n]; rfl
theorem s_bslice (hc : Conc lo F ω s f m) {t elem : TypeId} {n β : Nat} {parts : Array (Nat × Operand)} {i : TypeInfo} {z : List Value} {qs : List (Nat × Nat × Operand)} {l : List SV}
    (hop : o.op = .buildSlice t n parts) (hd : P.underlying t = some (.slice elem)) (hi : P.info? elem = some i) (hz : zeroA i = some z) (hb : n * i.size ≤ 10000) (hb' : n ≤ 10000)
    (hq : parts.toList.mapM (fun p => ((fun k => some (k * i.size, i.size)) p.1 : Option (Nat × Nat)).map fun q => (q.1, q.2, p.2)) = some qs) (hf : fill s ((repl n z).map ofV) qs = some l) (hn : newOK s elem β = true) :
    OpS P lo F ω f m o ⟨c, ⟨[], [], [(β, 0)], false, false, false, false⟩, .os (β, 0) 0 n true, s.own (β, 0) (some ⟨elem, false, i.size, n, fun k => (l.drop (k * i.size)).take i.size⟩)⟩ := by
  obtain ⟨hs, hzl⟩ := zeroA_simple hz
  have hs' := repl_simple hs n
  obtain ⟨vs, L, t1, t2, t3, t4⟩ := fill_rvl hc (place := fun k => some (k * i.size, i.size)) hq (ofV_rvl hs') (map_one1 hs') hf
  have hlen : l.length = n * i.size := by rw [fill_length hf, List.length_map, repl_length, hzl]
  have hLen : L.length = n * i.size := by rw [← t3.length]; exact hlen
  refine OpS.new hc (b := ⟨elem, false, i.size, n, fun k => (l.drop (k * i.size)).take i.size⟩) hn (Tb := tOf L) (L := fun k => (L.drop (k * i.size)).take i.size) (u := .slice (some ⟨m.next, 0, none⟩) n n) ?_
    (fun k hk => ⟨chunk_length hLen hk, (t3.drop _).take _, all_take (all_drop t4 _) _, fun j hj => ?_⟩) ?_
  · unfold evOp
    rw [hop]
    show (ob (partsA f parts.toList) fun ps => ob (P.underlying t) (evBuildSlice P m n ps)) = _
    rw [t1]
    show ob (P.underlying t) (evBuildSlice P m n vs) = _
    rw [hd]
    show (ob (P.info? elem) fun i => ob (zeroA i) fun z => evBuildSlice1 m n elem vs i z) = _
    rw [hi]
    show (ob (zeroA i) fun z => evBuildSlice1 m n elem vs i z) = _
    rw [hz]
    show evBuildSlice1 m n elem vs i z = _
    unfold evBuildSlice1
    rw [iteB_eq, if_pos (by rw [Nat.ble_eq_true_of_le hb, Nat.ble_eq_true_of_le hb']; rfl), t2]
    show some (⟨_, .new (.cells (tOf L) L.length elem i.size), []⟩ : R) = some ⟨_, .new (.cells _ (n * i.size) elem i.size), []⟩
    rw [hLen]
  · rw [tOf_get?]
    have hj : j < i.size := hj
    simp [List.getElem?_drop, hj]
  · have := RV.os (F := F) (ω := omSet ω (β, 0) m.next i.size) (o := 0) (n := n) (c := n) (ap := true) omSet_self (fun _ => .inr ⟨rfl, by show n < 1208925819614629174706176; omega⟩)
    simpa using this

theorem splice_get {α : Type} {l new : List α} {p j : Nat} (h : p + new.length ≤ l.length) : (l.take p ++ new ++ l.drop (p + new.length))[j]? = if p ≤ j ∧ j < p + new.length then new[j - p]? else l[j]? := by
  by_cases h1 : j < p
  · rw [if_neg (by omega), List.append_assoc, List.getElem?_append_left (by simp; omega)]
    simp [h1]
  · by_cases h2 : j < p + new.length
    · rw [if_pos (by omega), List.append_assoc, List.getElem?_append_right (by simp; omega), List.getElem?_append_left (by simp; omega)]
      congr 1; simp; omega
    · rw [if_neg (by omega), List.getElem?_append_right (by simp; omega)]
      simp only [List.length_append, List.length_take, List.getElem?_drop]
      congr 1; omega
/-- What a store leaves. -/
theorem Conc.upd (hc : Conc lo F ω s f m) {β : Nm} {k : Nat} {b : OB} (hex : ∃ c, lookO s.o β = some c) (hk : ω β = some (some (k, b.z))) (he : b.e ≠ CU) {Tb : Ev.T Value} {L : Nat → List Value}
    (hL : ∀ i, i < b.n → (L i).length = b.z ∧ RVL F ω (b.g i) (L i) ∧ (b.g i).all one1 = true ∧ ∀ j, j < b.z → Tb.get (i * b.z + j) = (L i)[j]?) :
    Conc lo F ω (s.own β (some b)) f (m.app (.upd k (.cells Tb (b.n * b.z) b.e (if b.bx then 0 else b.z)))) := by
  rw [app_upd]
  have hget : ∀ i, (T.set (Nat.succ k) m.b k (some (.cells Tb (b.n * b.z) b.e (if b.bx then 0 else b.z)))).get i = if i = k then some (.cells Tb (b.n * b.z) b.e (if b.bx then 0 else b.z)) else m.b.get i := fun i => T.set_at _ _ _ _
  have hap := hc.apart β k _ hk
  refine ⟨fun i x hx => ?_, ?_, hc.nxt, fun i x hx => ?_, fun γ d hd => ?_, fun γ hγ => ?_, hc.inj, hc.apart, hc.fr⟩
  · have hx : (T.set (Nat.succ k) m.b k (some (.cells Tb (b.n * b.z) b.e (if b.bx then 0 else b.z)))).get i = some x := hx
    rw [hget] at hx
    show i < m.next
    split at hx
    · rename_i q; rw [q]; exact hap.2.2
    · exact hc.wf i x hx
  · show lo ≤ Nat.min m.low k
    have := hc.low; have := hap.2.1
    rw [Nat.le_min]; omega
  · show (T.set (Nat.succ k) m.b k (some (.cells Tb (b.n * b.z) b.e (if b.bx then 0 else b.z)))).get i = some x
    rw [hget, if_neg (fun q => by rw [q, hap.1] at hx; cases hx)]
    exact hc.sub i x hx
  · have hd' : (if β = γ then some b else lookO s.o γ) = some d := by rw [← own_at (.inr hex)]; exact hd
    clear hd
    split at hd'
    · rename_i q; subst q; have hd2 := Option.some.inj hd'; subst hd2
      exact .inl ⟨k, Tb, L, hk, he, by show (T.set (Nat.succ k) m.b k _).get k = _; rw [hget, if_pos rfl], hL⟩
    · rename_i q
      exact (hc.own γ d hd').mono (Om.le_refl _) fun k' z' hk' => by show (T.set (Nat.succ k) m.b k _).get k' = _; rw [hget, if_neg (fun e => hc.inj γ β k' z' k _ hk' hk (Ne.symm q) e)]
  · exact hc.dom γ (own_none hγ).2
theorem s_store (hc : Conc lo F ω s f m) {t : TypeId} {x y : Operand} {i : TypeInfo} (hop : o.op = .store t x y) (hi : P.info? t = some i) {p v : SV} (hx : s.get x = some p) (hy : s.get y = some v) {q : XR} (h : storeX s i.size v p = some q) (hr : q.c) : OpS P lo F ω f m o q := by
  obtain ⟨u, e, hu⟩ := hc.get hx
  obtain ⟨w, e', hw⟩ := hc.get hy
  unfold storeX at h
  split at h
  · rename_i β a j
    split at h
    · rename_i b hb
      split at h
      · rename_i hq
        cases h
        obtain ⟨q1, q2, q3⟩ := hq
        have ha : a < b.n := hr
        obtain ⟨k, z, hk, rfl⟩ := hu.pt_inv
        obtain ⟨rfl, Tb, L, g1, g2⟩ := hc.ownAt hb hk
        obtain ⟨k1, k2⟩ := cells_rvl hw q3
        have hlen : w.cells.toList.length = i.size := by rw [← k1.length]; exact q1
        have hin := mul_in (z := b.z) ha
        have hset : (b.set a j v.cells).z = b.z ∧ (b.set a j v.cells).n = b.n ∧ (b.set a j v.cells).e = b.e ∧ (b.set a j v.cells).bx = b.bx := ⟨rfl, rfl, rfl, rfl⟩
        have hg : ∀ n, n < b.n → (b.set a j v.cells).g n = if n = a then splice (b.g a) j v.cells else b.g n := by
          intro n hn
          unfold OB.set
          simp only
          split
          · rename_i hq1
            have h1 : n = 0 := by omega
            have h2 : a = 0 := by omega
            subst h1; subst h2; simp
          · rfl
        refine ⟨⟨undef, .upd k (.cells (Ev.T.sets Tb (a * b.z + j) w.cells.toList) (b.n * b.z) b.e (if b.bx then 0 else b.z)), [k]⟩, ω, ?_, Om.le_refl _,
          hc.upd (b := b.set a j v.cells) ⟨_, hb⟩ hk (show b.e ≠ CU from hc.ownE hb hk) (L := fun n => if n = a then (L a).take j ++ w.cells.toList ++ (L a).drop (j + w.cells.toList.length) else L n) ?_, .tp .nil, fun _ _ _ h => .inl h, fun y hy => ?_, fun y hy => ?_, fun _ => rfl, fun q => (by cases q)⟩
        · unfold evOp
          rw [hop]
          show (ob (f.get y) fun v => ob (f.get x) (evStore P t m v)) = _
          rw [e']
          show ob (f.get x) (evStore P t m w) = _
          rw [e]
          show (ob (storeA P m t ⟨k, a * b.z + j, none⟩ w) fun e => (some ⟨undef, e, [k]⟩ : Option R)) = _
          have : storeA P m t ⟨k, a * b.z + j, none⟩ w = some (.upd k (.cells (Ev.T.sets Tb (a * b.z + j) w.cells.toList) (b.n * b.z) b.e (if b.bx then 0 else b.z))) := by
            unfold storeA
            rw [g1, hi]
            simp only
            have hne : Nat.beq b.e CU = false := by
              cases hq : Nat.beq b.e CU with
              | false => rfl
              | true => exact absurd (Nat.eq_of_beq_eq_true hq) (hc.ownE hb hk)
            rw [hlen, Nat.beq_refl, k2, Nat.ble_eq_true_of_le (by omega), hne]
            rfl
          rw [this]
          rfl
        · intro n hn
          obtain ⟨l1, l2, l3, l4⟩ := g2 a ha
          have hn : n < b.n := hn
          rw [hg n hn]
          show _ ∧ _ ∧ _ ∧ ∀ j', j' < b.z → _
          by_cases hna : n = a
          · subst hna
            simp only [if_true]
            have hle : j + w.cells.toList.length ≤ (L n).length := by rw [l1, hlen]; exact q2
            refine ⟨by simp only [List.length_append, List.length_take, List.length_drop]; show _ = b.z; omega, ?_, ?_, fun j' hj' => ?_⟩
            · unfold splice
              rw [k1.length]
              exact ((l2.take _).append k1).append (l2.drop _)
            · unfold splice
              rw [List.all_append, List.all_append, all_take l3, all_drop l3, q3]
              rfl
            · show (Ev.T.sets Tb (n * b.z + j) w.cells.toList).get (n * b.z + j') = _
              rw [T.sets_at, splice_get hle]
              by_cases hc1 : j ≤ j' ∧ j' < j + w.cells.toList.length
              · rw [if_pos (by omega), if_pos hc1]; congr 1; omega
              · rw [if_neg (by omega), if_neg hc1]; exact l4 j' hj'
          · simp only [if_neg hna]
            obtain ⟨m1, m2, m3, m4⟩ := g2 n hn
            refine ⟨m1, m2, m3, fun j' hj' => ?_⟩
            show (Ev.T.sets Tb (a * b.z + j) w.cells.toList).get (n * b.z + j') = _
            rw [T.sets_at, if_neg, m4 j' hj']
            rcases Nat.lt_or_gt_of_ne hna with h1 | h1
            · have := mul_in (z := b.z) h1; omega
            · have := mul_in (z := b.z) h1; omega
        · simp at hy; subst hy; exact .inl ⟨β, b.z, by simp, hk⟩
        · simp [Eff.mods] at hy; subst hy; exact ⟨β, b.z, by simp, hk⟩
      · cases h
    · cases h
  · cases h
end
end Sh
end Go.Proofs.Ytlfojfndkcmfnaa
