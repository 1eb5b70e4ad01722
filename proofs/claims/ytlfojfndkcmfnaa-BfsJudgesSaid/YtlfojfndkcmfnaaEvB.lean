/- The evaluator's operations: what each does to the memory. -/
import Derived.Test.YtlfojfndkcmfnaaEvA
import Derived.Laws.CopyRow
import Derived.Laws.Cells
import Derived.Laws.Entries
import Derived.ChangeKeysEq
namespace Go.Proofs.Ytlfojfndkcmfnaa
namespace Ev
open Go

def upd (M : AM) (i : Nat) (x : Option ABlk) : AM := fun j => if j = i then x else M j
def appM (M : AM) (next : Nat) : Eff → AM
  | .none => M
  | .new b => upd M next (some b)
  | .upd i b => upd M i (some b)
  | .move i b => upd (upd M i none) next (some b)
def Eff.adds : Eff → Bool
  | .new _ => true
  | .move _ _ => true
  | _ => false
def NV (φ : Phi) (v : Value) : Next → Prop
  | .value v' => VR φ v v'
  | .skip => v = undef
  | _ => False

/-- An operation's step. -/
def OpOk (P : Program) (s : Sem Next) (φ : Phi) (M : AM) (w : World) (next : Nat) (v : Value) (e : Eff) : Prop :=
  ∃ φ' w' nx, s.run P w = .ok nx w' ∧ NV φ' v nx ∧ φ.le φ' ∧ (∀ i, i ≠ next → φ' i = φ i) ∧ (e.adds = false → φ' = φ) ∧
    Rel φ' (appM M next e) w' ∧ WG φ M w φ' (appM M next e) w'

section
variable {P : Program} {s : Sem Next} {φ : Phi} {M : AM} {w : World} {next : Nat} {v : Value}

theorem OpOk.value {v' : Value} (hR : Rel φ M w) (hr : s.run P w = .ok (.value v') w) (hv : VR φ v v') : OpOk P s φ M w next v .none :=
  ⟨φ, w, .value v', hr, hv, φ.le_refl, fun _ _ => rfl, fun _ => rfl, hR, WG.refl _ _ _⟩

def phiSet (φ : Phi) (i : Nat) (l : Loc) : Phi := fun j => if j = i then some l else φ j
theorem phiSet_le {i : Nat} {l : Loc} (h : φ i = none) : φ.le (phiSet φ i l) := fun j x hx => by
  unfold phiSet
  by_cases e : j = i
  · subst e; rw [h] at hx; cases hx
  · rw [if_neg e]; exact hx
theorem phiSet_self (i : Nat) (l : Loc) : phiSet φ i l i = some l := by simp [phiSet]
theorem phiSet_ne {i j : Nat} (l : Loc) (h : j ≠ i) : phiSet φ i l j = φ j := by simp [phiSet, h]
theorem none_of_fresh (hR : Rel φ M w) {i : Nat} (h : φ i = none) : M i = none := by
  cases e : M i with
  | none => rfl
  | some b => obtain ⟨l, h1, _⟩ := hR.blk i b e; rw [h] at h1; cases h1

theorem heap_alloc_lt (w : World) (o : Obj) {k : Nat} (h : k < w.heap.size) : (w.alloc o).heap[k]? = w.heap[k]? := by
  show (w.heap.push o)[k]? = _
  rw [Array.getElem?_push, if_neg (Nat.ne_of_lt h)]
theorem heap_alloc_at (w : World) (o : Obj) : (w.alloc o).heap[w.heap.size]? = some o := by
  show (w.heap.push o)[w.heap.size]? = _
  rw [Array.getElem?_push, if_pos rfl]

/-- A new block. -/
theorem Rel.new (hR : Rel φ M w) (hf : φ next = none) {o : Obj} {l : Loc} {b : ABlk} (hl : l.blk = w.heap.size) (hb : BR (phiSet φ next l) l (w.alloc o) b) :
    Rel (phiSet φ next l) (upd M next (some b)) (w.alloc o) ∧ WG φ M w (phiSet φ next l) (upd M next (some b)) (w.alloc o) := by
  have hle := phiSet_le (l := l) hf
  have old : ∀ i x, i ≠ next → M i = some x → ∃ li, φ i = some li ∧ li.blk < w.heap.size ∧ BR (phiSet φ next l) li (w.alloc o) x := fun i x hi hx => by
    obtain ⟨li, h1, h2⟩ := hR.blk i x hx
    exact ⟨li, h1, h2.lt, (h2.mono hle).keep (heap_alloc_lt w o h2.lt)⟩
  refine ⟨⟨fun i x hx => ?_, fun i j x y li lj hne hx hy hi hj => ?_⟩, ⟨rfl, rfl, rfl, by simp, fun k hk _ => heap_alloc_lt w o hk, fun k hk h => ?_⟩⟩
  · unfold upd at hx
    by_cases e : i = next
    · subst e; rw [if_pos rfl] at hx; cases hx; exact ⟨l, phiSet_self _ _, hb⟩
    · rw [if_neg e] at hx
      obtain ⟨li, h1, _, h3⟩ := old i x e hx
      exact ⟨li, by rw [phiSet_ne l e]; exact h1, h3⟩
  · unfold upd at hx hy
    by_cases e : i = next
    · subst e
      rw [phiSet_self] at hi; cases hi
      have e2 : j ≠ i := fun q => hne q.symm
      rw [if_neg e2] at hy
      obtain ⟨lj', h1, h2, _⟩ := old j y e2 hy
      rw [phiSet_ne l e2, h1] at hj; cases hj
      omega
    · rw [if_neg e] at hx
      obtain ⟨li', h1, h2, _⟩ := old i x e hx
      rw [phiSet_ne l e, h1] at hi; cases hi
      by_cases e2 : j = next
      · subst e2; rw [phiSet_self] at hj; cases hj; omega
      · rw [if_neg e2] at hy
        rw [phiSet_ne l e2] at hj
        exact hR.inj i j x y _ _ hne hx hy h1 hj
  · obtain ⟨i, x, li, hx, hi, hk'⟩ := h
    unfold upd at hx
    by_cases e : i = next
    · subst e; rw [phiSet_self] at hi; cases hi; omega
    · rw [if_neg e] at hx; rw [phiSet_ne l e] at hi; exact ⟨i, x, li, hx, hi, hk'⟩

/-- A row of cells, laid as a new block. -/
theorem BR.row {φ : Phi} {l : Loc} {w : World} {elem sz : Nat} {cs cs' : List Value} (hv : VRL φ cs cs') {rest : List Value} (hw : w.heap[l.blk]? = some (.cells (cs' ++ rest).toArray elem (0, 0)))
    (h0 : l.base = 0) (hs : l.size = cs'.length + rest.length) (hz : l.sz = sz) : BR φ l w (.cells (tOf cs) cs.length elem sz) := by
  refine ⟨hz, by rw [h0, hs, hv.length]; omega, cs' ++ rest, hw, by simp [hs], fun j v hj hg => ?_⟩
  obtain ⟨v', h1, h2⟩ := hv.get (tOf_get hg)
  refine ⟨v', ?_, h2⟩
  rw [h0, Nat.zero_add, List.getElem?_append_left (by rw [← hv.length]; exact hj)]
  exact h1

theorem OpOk.row (hR : Rel φ M w) (hf : φ next = none) {elem sz : Nat} {cs cs' : List Value} (hc : VRL φ cs cs') {v' : Value}
    (hr : s.run P w = .ok (.value v') (w.alloc (.cells cs'.toArray elem)))
    (hv : VR (phiSet φ next ⟨w.heap.size, 0, cs.length, sz⟩) v v') : OpOk P s φ M w next v (.new (rowBlk elem sz cs)) := by
  have hle := phiSet_le (l := ⟨w.heap.size, 0, cs.length, sz⟩) hf
  have := hR.new (l := ⟨w.heap.size, 0, cs.length, sz⟩) (b := rowBlk elem sz cs) (o := .cells cs'.toArray elem) hf rfl
    (BR.row (rest := []) (hc.mono hle) (by rw [List.append_nil]; exact heap_alloc_at w _) rfl (by simp [hc.length]) rfl)
  exact ⟨_, _, .value v', hr, hv, hle, fun i hi => phiSet_ne _ hi, fun h => (by cases h), this.1, this.2⟩

/-- Cells written into a known block. -/
theorem T.sets_get {c : T Value} {i j : Nat} {l : List Value} {y : Value} (h : (T.sets c i l).get j = some y) : (i ≤ j ∧ j < i + l.length ∧ l[j - i]? = some y) ∨ (¬ (i ≤ j ∧ j < i + l.length) ∧ c.get j = some y) := by
  have := T.get_sets l c i j y h
  by_cases q : i ≤ j ∧ j < i + l.length
  · rw [if_pos q] at this; exact .inl ⟨q.1, q.2, this⟩
  · rw [if_neg q] at this; exact .inr ⟨q, this⟩

/-- One block of the world gets other cells. -/
theorem Rel.setRow (hR : Rel φ M w) {i : Nat} {b b' : ABlk} {l : Loc} {cs : Array Value} (hb : M i = some b) (hl : φ i = some l) (hb' : BR φ l (w.setRow l.blk cs) b') :
    Rel φ (upd M i (some b')) (w.setRow l.blk cs) ∧ WG φ M w φ (upd M i (some b')) (w.setRow l.blk cs) := by
  refine ⟨⟨fun j x hx => ?_, fun j k x y lj lk hne hx hy hj hk => ?_⟩, ⟨rfl, rfl, rfl, by simp, fun k hk hn => setRow_other w _ _ _ (fun e => hn ⟨i, b, l, hb, hl, e.symm⟩), fun k hk h => ?_⟩⟩
  · unfold upd at hx
    by_cases e : j = i
    · subst e; rw [if_pos rfl] at hx; cases hx; exact ⟨l, hl, hb'⟩
    · rw [if_neg e] at hx
      obtain ⟨lj, h1, h2⟩ := hR.blk j x hx
      exact ⟨lj, h1, h2.keep (setRow_other w _ _ _ (hR.inj j i x b lj l e hx hb h1 hl))⟩
  · unfold upd at hx hy
    by_cases e : j = i
    · subst e
      rw [if_neg (fun q => hne q.symm)] at hy
      exact hR.inj j k b y lj lk hne hb hy hj hk
    · rw [if_neg e] at hx
      by_cases e2 : k = i
      · subst e2; exact hR.inj j k x b lj lk hne hx hb hj hk
      · rw [if_neg e2] at hy; exact hR.inj j k x y lj lk hne hx hy hj hk
  · obtain ⟨j, x, lj, hx, hj, hk'⟩ := h
    unfold upd at hx
    by_cases e : j = i
    · subst e; exact ⟨j, b, lj, hb, hj, hk'⟩
    · rw [if_neg e] at hx; exact ⟨j, x, lj, hx, hj, hk'⟩

theorem getElem?_splice {α : Type} (cur vs : List α) (p q : Nat) (h : p + vs.length ≤ cur.length) :
    (cur.take p ++ vs ++ cur.drop (p + vs.length))[q]? = if p ≤ q ∧ q < p + vs.length then vs[q - p]? else cur[q]? := by
  by_cases c : q < p
  · rw [List.append_assoc, List.getElem?_append_left (by simp; omega), List.getElem?_take_of_lt c, if_neg (by omega)]
  · by_cases d : q < p + vs.length
    · rw [List.getElem?_append_left (by simp; omega), List.getElem?_append_right (by simp; omega), if_pos (by omega)]
      simp [Nat.min_eq_left (show p ≤ cur.length by omega)]
    · rw [List.getElem?_append_right (by simp; omega), List.getElem?_drop, if_neg (by omega)]
      congr 1
      simp [Nat.min_eq_left (show p ≤ cur.length by omega)]
      omega

/-- What is known of a block behind a write into it. -/
theorem BR.write {l : Loc} {c : T Value} {n o elem sz : Nat} {new new' cs : List Value} (hw : w.heap[l.blk]? = some (.cells cs.toArray elem (0, 0))) (hsz : l.sz = sz) (hn : l.base + n ≤ l.size) (hlen : cs.length = l.size)
    (hc : ∀ j v, j < n → c.get j = some v → ∃ v', cs[l.base + j]? = some v' ∧ VR φ v v') (hv : VRL φ new new') (ho : o + new.length ≤ n) :
    BR φ l (w.setRow l.blk (cs.take (l.base + o) ++ new' ++ cs.drop (l.base + o + new'.length)).toArray) (.cells (T.sets c o new) n elem sz) := by
  have hl := hv.length
  refine ⟨hsz, hn, _, setRow_heap w _ _ _ elem _ hw, by simp; omega, fun j v hj hg => ?_⟩
  rw [getElem?_splice cs new' (l.base + o) (l.base + j) (by omega)]
  rcases T.sets_get hg with ⟨h1, h2, h3⟩ | ⟨h1, h2⟩
  · rw [if_pos (by omega), show l.base + j - (l.base + o) = j - o by omega]
    exact hv.get h3
  · rw [if_neg (by omega)]
    exact hc j v hj h2

theorem oneCell_of_good {φ : Phi} : ∀ {l l' : List Value}, VRL φ l l' → allGood l = true → ∀ v ∈ l', v.oneCell' = true
  | _, _, .nil, _ => by simp
  | _, _, .cons (v := v) (v' := v') (l := l₀) a b, h => by
    have hv : v'.oneCell' = true ∧ allGood l₀ = true := by
      cases a with
      | agg _ => simp [allGood] at h
      | tuple _ => simp [allGood] at h
      | simple hs => cases v <;> simp_all [allGood, Value.oneCell', Ev.simple]
      | ptr _ => exact ⟨rfl, by simpa [allGood] using h⟩
      | slice _ _ _ _ _ => exact ⟨rfl, by simpa [allGood] using h⟩
      | map _ => exact ⟨rfl, by simpa [allGood] using h⟩
      | func _ _ => exact ⟨rfl, by simpa [allGood] using h⟩
    intro u hu
    rcases List.mem_cons.1 hu with rfl | hu
    · exact hv.1
    · exact oneCell_of_good b hv.2 u hu
end

/-- A known block, opened. -/
theorem Rel.cellsAt {φ : Phi} {M : AM} {w : World} (hR : Rel φ M w) {i : Nat} {c : T Value} {n e z : Nat} (h : M i = some (.cells c n e z)) :
    ∃ (l : Loc) (cs : List Value), φ i = some l ∧ l.sz = z ∧ l.base + n ≤ l.size ∧ w.heap[l.blk]? = some (.cells cs.toArray e (0, 0)) ∧ cs.length = l.size ∧
      ∀ j v, j < n → c.get j = some v → ∃ v', cs[l.base + j]? = some v' ∧ VR φ v v' := by
  obtain ⟨l, h1, h2, h3, cs, h4, h5, h6⟩ := hR.blk i _ h
  exact ⟨l, cs, h1, h2, h3, h4, h5, h6⟩
theorem addr_add (b o i : Nat) : (⟨b, o, none⟩ : Addr).add i = ⟨b, o + i, none⟩ := by
  unfold Addr.add
  split
  · subst_vars; rfl
  · rfl
theorem cell_of {w : World} {b e o : Nat} {cs : List Value} {v : Value} (h : w.heap[b]? = some (.cells cs.toArray e (0, 0))) (hv : cs[o]? = some v) : w.cell? ⟨b, o, none⟩ = some v := by
  simp [World.cell?, h, hv]

theorem getCells_some {c : T Value} : ∀ {n o : Nat} {l : List Value}, getCells c o n = some l → l.length = n ∧ ∀ j, j < n → ∃ v, c.get (o + j) = some v ∧ l[j]? = some v
  | 0, o, l, h => by simp [getCells] at h; subst h; exact ⟨rfl, fun j hj => absurd hj (Nat.not_lt_zero _)⟩
  | n + 1, o, l, h => by
    unfold getCells at h
    split at h
    · cases h
    · rename_i v hv
      split at h
      · cases h
      · rename_i r hr
        cases h
        obtain ⟨h1, h2⟩ := getCells_some hr
        refine ⟨by simp [h1], fun j hj => ?_⟩
        cases j with
        | zero => exact ⟨v, hv, rfl⟩
        | succ j =>
          obtain ⟨u, a, b⟩ := h2 j (by omega)
          exact ⟨u, by rw [show o + (j + 1) = o + 1 + j by omega]; exact a, by simpa using b⟩
/-- Cells read out of a known block. -/
theorem cellsRead {φ : Phi} {c : T Value} {n o k base : Nat} {cs l : List Value} (hc : ∀ j v, j < n → c.get j = some v → ∃ v', cs[base + j]? = some v' ∧ VR φ v v')
    (hg : getCells c o k = some l) (hn : o + k ≤ n) : ∃ l', VRL φ l l' ∧ ∀ j v, l'[j]? = some v → cs[base + o + j]? = some v := by
  induction k generalizing o l with
  | zero => simp [getCells] at hg; subst hg; exact ⟨[], .nil, by simp⟩
  | succ k ih =>
    unfold getCells at hg
    split at hg
    · cases hg
    · rename_i v hv
      split at hg
      · cases hg
      · rename_i r hr
        cases hg
        obtain ⟨l', h1, h2⟩ := ih hr (by omega)
        obtain ⟨v', h3, h4⟩ := hc o v (by omega) hv
        refine ⟨v' :: l', .cons h4 h1, fun j u hu => ?_⟩
        cases j with
        | zero => simp at hu; subst hu; exact h3
        | succ j => rw [show base + o + (j + 1) = base + (o + 1) + j by omega]; exact h2 j u (by simpa using hu)
end Ev
end Go.Proofs.Ytlfojfndkcmfnaa
