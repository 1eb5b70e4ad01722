/- Ranging over such a map. -/
import Derived.Test.YtegpikhfnhcjaaaGreatMapA
namespace Go.Proofs.YtegpikhfnhcjaaaGreat
open Go.RowKit

/-- Block r is an iterator over map b, which holds L; seen: the places that have come. -/
def PIter (w : World) (r b : Nat) (L : List Tri) (seen : List Nat) : Prop := w.heap[r]? = some (.mapIter (some b) L.length seen.toArray L.length)

theorem run_range2 {w : World} {b : Nat} {L : List Tri} (h : PMap w b L) :
    (Instr.range 103 (.map (some b))).run Tryz.prog w = .ok (.pointer (some ⟨w.heap.size, 0, none⟩)) (w.alloc (.mapIter (some b) L.length #[] L.length)) := by
  have hb : w.heap[b]? = _ := h
  simp only [Instr.range, Sem.run_bind, run_underlying Tryz.underlying103, Result.andThen_ok, getObj, Sem.run, hb, Sem.run_pure, newObj]
  rfl

theorem getElem?_ents (L : List Tri) (i : Nat) : (ents L)[i]? = (L[i]?).map (ent i) := by simp [ents]
theorem mem_ents {L : List Tri} {e : MapEntry} (h : e ∈ ents L) : ∃ i p, L[i]? = some p ∧ e = ent i p := by
  obtain ⟨i, hi⟩ := Array.mem_iff_getElem?.1 h
  rw [getElem?_ents] at hi
  obtain ⟨p, hp, rfl⟩ := Option.map_eq_some_iff.1 hi
  exact ⟨i, p, hp, rfl⟩
theorem ent_mem {L : List Tri} {i : Nat} {p : Tri} (h : L[i]? = some p) : ent i p ∈ ents L := by
  apply Array.mem_of_getElem? (i := i)
  rw [getElem?_ents, h]
  rfl

/-- The world behind a step of an iterator. -/
def World.stepIter (w : World) (m r b : Nat) (L : List Tri) (seen : List Nat) : World := { w.drewN m with heap := w.heap.setIfInBounds r (.mapIter (some b) L.length seen.toArray L.length) }

theorem run_next2 {w : World} {r b : Nat} {L : List Tri} {seen : List Nat} (h : PMap w b L) (hi : PIter w r b L seen) (ty : TypeId) :
    (∃ m, (Instr.next (.pointer (some ⟨r, 0, none⟩)) false ty).run Tryz.prog w = .ok (.tuple #[.bool false]) (w.drewN m) ∧ ∀ i, i < L.length → i ∈ seen) ∨
    ∃ m i p, L[i]? = some p ∧ i ∉ seen ∧ (Instr.next (.pointer (some ⟨r, 0, none⟩)) false ty).run Tryz.prog w = .ok (.tuple #[.bool true, (ent i p).key, (ent i p).val]) (World.stepIter w m r b L (seen ++ [i])) := by
  have hb : w.heap[b]? = _ := h
  have hr : w.heap[r]? = _ := hi
  have hlt : r < w.heap.size := (Array.getElem?_eq_some_iff.1 hr).1
  have hall : (!seen.toArray.isEmpty && !(ents L).isEmpty && (ents L).all (fun x => decide (x.born ≥ L.length))) = false := by
    cases L with
    | nil => simp [ents]
    | cons p L =>
      have : (ents (p :: L)).all (fun x => decide (x.born ≥ (p :: L).length)) = false := by
        rw [Array.all_eq_false]
        exact ⟨0, by simp [ents], by simp [ents, ent]⟩
      rw [this]
      simp
  have hold : ∀ left : Array MapEntry, (∀ e ∈ left, e ∈ ents L) → left.filter (fun x => decide (x.born < L.length)) = left ∧ left.filter (fun x => decide (x.born ≥ L.length)) = #[] := by
    intro left hl
    have hborn : ∀ e ∈ left, e.born < L.length := by
      intro e he
      obtain ⟨i, p, hp, rfl⟩ := mem_ents (hl e he)
      exact (List.getElem?_eq_some_iff.1 hp).1
    constructor
    · rw [Array.filter_eq_self]
      exact fun e he => decide_eq_true (hborn e he)
    · rw [Array.filter_eq_empty_iff]
      intro e he
      have := hborn e he
      simp; omega
  obtain ⟨left, hleft⟩ : ∃ left, (ents L).filter (fun e => !seen.toArray.contains e.born) = left := ⟨_, rfl⟩
  have hsub : ∀ e ∈ left, e ∈ ents L ∧ e.born ∉ seen := by
    intro e he
    rw [← hleft, Array.mem_filter] at he
    exact ⟨he.1, by simpa using he.2⟩
  obtain ⟨o1, o2⟩ := hold left (fun e he => (hsub e he).1)
  have hnext : (Instr.next (.pointer (some ⟨r, 0, none⟩)) false ty).run Tryz.prog w =
      ((choose (.mapNext ((if left.isEmpty then #[none] else #[]) ++ (left ++ #[]).map some).size)).run Tryz.prog w).andThen fun j w' =>
        (match ((if left.isEmpty then #[none] else #[]) ++ (left ++ #[]).map some)[j]? with
          | some (some e) => (do setObj r (.mapIter (some b) L.length (seen.toArray.push e.born) L.length); pure (.tuple #[.bool true, e.key, e.val]) : Sem Value)
          | some none => pure (.tuple #[.bool false])
          | none => stuck "Next: no such candidate").run Tryz.prog w' := by
    simp only [Instr.next, Sem.run_bind, getObj, Sem.run, hr, hb, Result.andThen_ok, hall, hleft, o1, o2]
    rw [if_neg (by simp)]
    simp only [Sem.run_bind]
    rfl
  rw [hnext]
  by_cases hem : left = #[]
  · subst hem
    refine .inl ⟨0, by simp [choose, Sem.run, Question.forced, World.drewN], fun i hi => ?_⟩
    by_cases hs : i ∈ seen
    · exact hs
    · have : ent i L[i] ∈ (#[] : Array MapEntry) := by
        rw [← hleft, Array.mem_filter]
        exact ⟨ent_mem (List.getElem?_eq_getElem hi), by simpa [ent] using hs⟩
      simp at this
  · right
    have hne : left.isEmpty = false := by simpa using hem
    have hpos : 0 < left.size := Array.size_pos_iff.2 hem
    have hcs : ((if left.isEmpty then #[none] else #[]) ++ (left ++ #[]).map some) = left.map some := by simp [hne]
    rw [hcs]
    obtain ⟨j, m, hj, hch⟩ : ∃ j m, j < left.size ∧ (choose (.mapNext (left.map some).size)).run Tryz.prog w = .ok j (w.drewN m) := by
      by_cases h1 : left.size ≤ 1
      · exact ⟨0, 0, hpos, by simp [choose, Sem.run, Question.forced, h1, World.drewN]⟩
      · exact ⟨_, 1, Nat.mod_lt _ hpos, by simp [choose, Sem.run, Question.forced, h1, World.drewN, Question.cut]; rfl⟩
    rw [hch]
    obtain ⟨i, p, hp, he⟩ := mem_ents (hsub left[j] (Array.getElem_mem hj)).1
    have hns := (hsub left[j] (Array.getElem_mem hj)).2
    rw [he] at hns
    refine ⟨m, i, p, hp, hns, ?_⟩
    have hr' : (w.drewN m).heap[r]? = _ := hr
    have hm : (left.map some)[j]? = some (some (ent i p)) := by simp [hj, he]
    simp only [Result.andThen_ok, hm, Sem.run_bind, setObj, Sem.run, hr', Sem.run_pure]
    simp [World.stepIter, ent, World.drewN]

theorem run_entry2 {w : World} {r b : Nat} {L : List Tri} {seen : List Nat} {i : Nat} {p : Tri} (h : PMap w b L) (hi : PIter w r b L (seen ++ [i])) (hp : L[i]? = some p) :
    (Instr.entry (.pointer (some ⟨r, 0, none⟩))).run Tryz.prog w = .ok (.tuple #[(ent i p).key, (ent i p).val]) w := by
  have hb : w.heap[b]? = _ := h
  have hr : w.heap[r]? = _ := hi
  have hback : (seen ++ [i]).toArray.back? = some i := by simp
  have hfind : (ents L).find? (fun x => x.born == i) = some (ent i p) := by
    rw [Array.find?_eq_some_iff_getElem]
    obtain ⟨hlt, e⟩ := List.getElem?_eq_some_iff.1 hp
    refine ⟨by simp [ent], i, by simpa [ents] using hlt, by simp [ents, e], fun j hj => ?_⟩
    simp [ents, ent]
    omega
  simp only [Instr.entry, Sem.run_bind, getObj, Sem.run, hr, hb, Result.andThen_ok, hback, hfind]
  simp

theorem wpList_range2 {w : World} {ops : Array Oper} {rest : List Oper} {o : Oper} {a : Act} {Q : Exit → Act → World → Prop} (hgd : o.guard = none) (x : Operand) (ho : o.op = .range 103 x)
    (b : Nat) (hx : a.eval x = .map (some b)) (L : List Tri) (hL : PMap w b L)
    (h : wpList Tryz.prog ops Q rest (a.put o.dst (.pointer (some ⟨w.heap.size, 0, none⟩))) (w.alloc (.mapIter (some b) L.length #[] L.length))) : wpList Tryz.prog ops Q (o :: rest) a w := by
  refine wpList_exec hgd _ ?_ h
  unfold execOp
  simp only [ho, hx, Sem.run_bind, run_range2 hL, Result.andThen_ok, Sem.run_pure]
theorem wpList_next2 {w : World} {ops : Array Oper} {rest : List Oper} {o : Oper} {a : Act} {Q : Exit → Act → World → Prop} (hgd : o.guard = none) (x : Operand) (ho : o.op = .next x false)
    (r b : Nat) (hx : a.eval x = .pointer (some ⟨r, 0, none⟩)) (L : List Tri) (seen : List Nat) (hL : PMap w b L) (hI : PIter w r b L seen)
    (hend : ∀ m, (∀ i, i < L.length → i ∈ seen) → wpList Tryz.prog ops Q rest (a.put o.dst (.tuple #[.bool false])) (w.drewN m))
    (hgo : ∀ m i p, L[i]? = some p → i ∉ seen → wpList Tryz.prog ops Q rest (a.put o.dst (.tuple #[.bool true, .agg #[.int .i64 p.1, .int .i64 p.2.1], .int .i64 p.2.2])) (World.stepIter w m r b L (seen ++ [i]))) : wpList Tryz.prog ops Q (o :: rest) a w := by
  rcases run_next2 hL hI o.type with ⟨m, hr, h1⟩ | ⟨m, i, p, h1, h2, hr⟩
  · refine wpList_exec hgd _ ?_ (hend m h1)
    unfold execOp
    simp only [ho, hx, Sem.run_bind, hr, Result.andThen_ok, Sem.run_pure]
  · refine wpList_exec hgd _ ?_ (hgo m i p h1 h2)
    unfold execOp
    simp only [ho, hx, Sem.run_bind, hr, Result.andThen_ok, Sem.run_pure, ent]
theorem wpList_entry2 {w : World} {ops : Array Oper} {rest : List Oper} {o : Oper} {a : Act} {Q : Exit → Act → World → Prop} (hgd : o.guard = none) (x : Operand) (ho : o.op = .entry x)
    (r b : Nat) (hx : a.eval x = .pointer (some ⟨r, 0, none⟩)) (L : List Tri) (seen : List Nat) (i : Nat) (p : Tri) (hL : PMap w b L) (hI : PIter w r b L (seen ++ [i])) (hp : L[i]? = some p)
    (h : wpList Tryz.prog ops Q rest (a.put o.dst (.tuple #[.agg #[.int .i64 p.1, .int .i64 p.2.1], .int .i64 p.2.2])) w) : wpList Tryz.prog ops Q (o :: rest) a w := by
  refine wpList_exec hgd _ ?_ h
  unfold execOp
  simp only [ho, hx, Sem.run_bind, run_entry2 hL hI hp, Result.andThen_ok, Sem.run_pure, ent]

section
variable {w : World} {r b : Nat} {L : List Tri} {seen seen' : List Nat}
theorem PIter.lt (h : PIter w r b L seen) : r < w.heap.size := (Array.getElem?_eq_some_iff.1 h).1
theorem PIter.alloc (h : PIter w r b L seen) (o : Obj) : PIter (w.alloc o) r b L seen := (Below.heap_alloc w o r h.lt).trans h
theorem PIter.step (h : PIter w r b L seen) (m : Nat) : PIter (World.stepIter w m r b L seen') r b L seen' := by
  unfold PIter World.stepIter
  show (w.heap.setIfInBounds r _)[r]? = _
  rw [Array.getElem?_setIfInBounds, if_pos rfl, if_pos h.lt]
theorem PMap.step {b' : Nat} {L' : List Tri} (h : PMap w b' L') (hne : b' ≠ r) (m : Nat) : PMap (World.stepIter w m r b L seen') b' L' := by
  unfold PMap World.stepIter
  show (w.heap.setIfInBounds r _)[b']? = _
  rw [Array.getElem?_setIfInBounds, if_neg (by omega)]
  exact h
theorem Below.stepIter {B : Nat} {a : World} (h : Below B a w) (hr : B ≤ r) (m : Nat) : Below B a (World.stepIter w m r b L seen') :=
  h.trans ⟨rfl, rfl, rfl, by simp [World.stepIter], fun k hk => by
    show (w.heap.setIfInBounds r _)[k]? = _
    rw [Array.getElem?_setIfInBounds, if_neg (by omega)]⟩
theorem size_stepIter (m : Nat) : (World.stepIter w m r b L seen').heap.size = w.heap.size := by simp [World.stepIter]
theorem size_setMap : (World.setMap w b L).heap.size = w.heap.size := by simp [World.setMap]
end
end Go.Proofs.YtegpikhfnhcjaaaGreat
