/- Lemmas, joined: MapA MapB PlainE GraphB RvS ShS. -/
import Derived.Test.YtlfojfndkcmfnaaPkLe11
import Derived.Maps.Own
import Derived.Maps.OwnOps
import Derived.Maps.RangeWalk
import Derived.Test.YtlfojfndkcmfnaaPkLe3
import Derived.Test.YtlfojfndkcmfnaaPkLe10
set_option linter.unusedSimpArgs false
set_option linter.unusedVariables false
namespace Go.Proofs.Ytlfojfndkcmfnaa
open Go.RowKit

theorem isAgg_int (w : World) : (isAgg 3).run Try.prog w = .ok false w := by kernel_rfl
theorem sizeOf_int (w : World) : (sizeOf 3).run Try.prog w = .ok 1 w := by kernel_rfl
theorem part_int (w : World) (cs : Array Value) (k : Nat) (v : Value) (h : cs[k]? = some v) : (part 3 cs k).run Try.prog w = .ok v w := by
  simp [part, h]
theorem equalIn_int (d : Nat) (a b : Int) (w : World) : (Op.equalIn (d + 1) 3 (.int .i64 a) (.int .i64 b)).run Try.prog w = .ok (a == b) w := by
  simp [Op.equalIn, run_underlying Try.underlying3]
theorem equalIn_pair (n : Nat) (a b c d : Int) (w : World) : (Op.equalIn (n + 2) 86 (.agg #[.int .i64 a, .int .i64 b]) (.agg #[.int .i64 c, .int .i64 d])).run Try.prog w = .ok (a == c && b == d) w := by
  have h := equalIn_int n
  have p0 : ∀ x y w, (part 3 #[x, y] 0).run Try.prog w = .ok x w := fun x y w => part_int w _ 0 x rfl
  have p1 : ∀ x y w, (part 3 #[x, y] 1).run Try.prog w = .ok y w := fun x y w => part_int w _ 1 y rfl
  unfold Op.equalIn
  simp [run_underlying Try.underlying86, Std.Legacy.Range.forIn_eq_forIn_range', Std.Legacy.Range.size, List.range', p0, p1, h]
  by_cases h1 : a = c <;> by_cases h2 : b = d <;> simp [h1, h2]
theorem equal_pair (a b c d : Int) (w : World) : (Op.equal 86 (.agg #[.int .i64 a, .int .i64 b]) (.agg #[.int .i64 c, .int .i64 d])).run Try.prog w = .ok (a == c && b == d) w :=
  equalIn_pair 9998 a b c d w

abbrev Tri := Int × Int × Int
def ent (i : Nat) (p : Tri) : MapEntry := { key := .agg #[.int .i64 p.1, .int .i64 p.2.1], val := .int .i64 p.2.2, born := i }
def ents (L : List Tri) : Array MapEntry := (L.mapIdx ent).toArray
def hit (x y : Int) (p : Tri) : Bool := x == p.1 && y == p.2.1
def PMap (w : World) (b : Nat) (L : List Tri) : Prop := w.heap[b]? = some (.map (ents L) L.length)

theorem run_findAsking (x y : Int) (w : World) : ∀ (L : List Tri) (f : Nat → Tri → MapEntry) (_ : ∀ i p, (f i p).key = .agg #[.int .i64 p.1, .int .i64 p.2.1] ∧ (f i p).val = .int .i64 p.2.2) (i : Nat),
    ∃ r, (Instr.findAsking 86 (.agg #[.int .i64 x, .int .i64 y]) (L.mapIdx f) i).run Try.prog w = .ok r w ∧ (∀ p, L.find? (hit x y) = some p → ∃ j, r = some (j, .int .i64 p.2.2)) ∧ (L.find? (hit x y) = none → r = none)
  | [], f, _, i => ⟨none, by simp [Instr.findAsking], by simp, fun _ => rfl⟩
  | p :: L, f, hf, i => by
    obtain ⟨r, h1, h2, h3⟩ := run_findAsking x y w L (fun i => f (i + 1)) (fun i p => hf (i + 1) p) (i + 1)
    rw [List.mapIdx_cons]
    simp only [Instr.findAsking, Sem.run_bind, (hf 0 p).1, (hf 0 p).2, equal_pair, Result.andThen_ok]
    by_cases hh : hit x y p = true
    · refine ⟨some (i, .int .i64 p.2.2), ?_, ?_, ?_⟩
      · have : (x == p.1 && y == p.2.1) = true := hh
        rw [this]
        simp
      · intro q hq
        simp [hh] at hq
        subst hq
        exact ⟨i, rfl⟩
      · intro hq
        simp [hh] at hq
    · have hf' : hit x y p = false := by simpa using hh
      refine ⟨r, ?_, ?_, ?_⟩
      · have : (x == p.1 && y == p.2.1) = false := hf'
        rw [this]
        simpa using h1
      · intro q hq
        simp only [List.find?_cons, hf'] at hq
        exact h2 q hq
      · intro hq
        simp only [List.find?_cons, hf'] at hq
        exact h3 hq

theorem run_findKey (x y : Int) (w : World) (L : List Tri) :
    ∃ r, (Instr.findKey 86 (.agg #[.int .i64 x, .int .i64 y]) (ents L).toList).run Try.prog w = .ok r w ∧ (∀ p, L.find? (hit x y) = some p → ∃ j, r = some (j, .int .i64 p.2.2)) ∧ (L.find? (hit x y) = none → r = none) := by
  obtain ⟨r, h1, h2⟩ := run_findAsking x y w L ent (fun i p => ⟨rfl, rfl⟩) 0
  refine ⟨r, ?_, h2⟩
  unfold ents
  cases L with
  | nil =>
    simp [Instr.findAsking] at h1
    subst h1
    simp [Instr.findKey, run_underlying Try.underlying86, Instr.findNow]
  | cons p L =>
    rw [List.mapIdx_cons] at h1 ⊢
    simp only [Instr.findKey, Sem.run_bind, run_underlying Try.underlying86, Result.andThen_ok, Instr.findNow, ent, Instr.sameNow]
    exact h1

theorem checkKey_int (e : Bool) (n : Nat) (a : Int) (w : World) : (Instr.checkKey e (n + 1) 3 (.int .i64 a)).run Try.prog w = .ok () w := by
  unfold Instr.checkKey
  simp [run_underlying Try.underlying3]
theorem run_checkKey (e : Bool) (x y : Int) (w : World) : (Instr.checkKey e 10000 86 (.agg #[.int .i64 x, .int .i64 y])).run Try.prog w = .ok () w := by
  have h : ∀ a w, (Instr.checkKey e 9999 3 (.int .i64 a)).run Try.prog w = .ok () w := fun a w => checkKey_int e 9998 a w
  have p0 : ∀ x y w, (part 3 #[x, y] 0).run Try.prog w = .ok x w := fun x y w => part_int w _ 0 x rfl
  have p1 : ∀ x y w, (part 3 #[x, y] 1).run Try.prog w = .ok y w := fun x y w => part_int w _ 1 y rfl
  unfold Instr.checkKey
  simp [run_underlying Try.underlying86, Std.Legacy.Range.forIn_eq_forIn_range', Std.Legacy.Range.size, List.range', p0, p1, h]

theorem zero_int (w : World) : (zeroValue 3).run Try.prog w = .ok (.int .i64 0) w := by kernel_rfl

/-- What the map holds at a pair of keys, 0 if nothing. -/
def valAt (L : List Tri) (x y : Int) : Int := ((L.find? (hit x y)).map (·.2.2)).getD 0
def hasPair (L : List Tri) (x y : Int) : Bool := (L.find? (hit x y)).isSome

theorem run_lookup2 {w : World} {b : Nat} {L : List Tri} (h : PMap w b L) (x y : Int) (c : Bool) :
    (Instr.lookup 85 (.map (some b)) (.agg #[.int .i64 x, .int .i64 y]) c).run Try.prog w = .ok (if c then .tuple #[.int .i64 (valAt L x y), .bool (hasPair L x y)] else .int .i64 (valAt L x y)) w := by
  obtain ⟨r, h1, h2, h3⟩ := run_findKey x y w L
  have hb : w.heap[b]? = _ := h
  simp only [Instr.lookup, Sem.run_bind, run_underlying Try.underlying85, Result.andThen_ok, getObj, Sem.run, hb, run_checkKey, h1, Sem.run_pure]
  unfold valAt hasPair
  cases hf : L.find? (hit x y) with
  | none =>
    rw [h3 hf]
    cases c <;> simp
  | some p =>
    obtain ⟨j, rfl⟩ := h2 p hf
    cases c <;> simp

theorem ents_snoc (L : List Tri) (p : Tri) : ents (L ++ [p]) = (ents L).push (ent L.length p) := by
  unfold ents
  rw [List.mapIdx_append]
  simp
theorem run_mapUpdate2 {w : World} {b : Nat} {L : List Tri} (h : PMap w b L) (x y z : Int) (hn : hasPair L x y = false) :
    (Instr.mapUpdate 85 (.map (some b)) (.agg #[.int .i64 x, .int .i64 y]) (.int .i64 z)).run Try.prog w = .ok () { w with heap := w.heap.setIfInBounds b (.map (ents (L ++ [(x, y, z)])) (L.length + 1)) } := by
  obtain ⟨r, h1, _, h3⟩ := run_findKey x y w L
  have hb : w.heap[b]? = _ := h
  have hf : L.find? (hit x y) = none := by
    unfold hasPair at hn
    simpa using hn
  rw [h3 hf] at h1
  simp only [Instr.mapUpdate, Sem.run_bind, run_underlying Try.underlying85, Result.andThen_ok, getObj, Sem.run, hb, run_checkKey, h1, setObj, ents_snoc, ent]

/-- The world behind a store of a map's block. -/
def World.setMap (w : World) (b : Nat) (L : List Tri) : World := { w with heap := w.heap.setIfInBounds b (.map (ents L) L.length) }
theorem PMap.lt {w : World} {b : Nat} {L : List Tri} (h : PMap w b L) : b < w.heap.size := (Array.getElem?_eq_some_iff.1 h).1
theorem PMap.alloc {w : World} {b : Nat} {L : List Tri} (h : PMap w b L) (o : Obj) : PMap (w.alloc o) b L := (Below.heap_alloc w o b h.lt).trans h
theorem PMap.below {w w' : World} {B b : Nat} {L : List Tri} (h : PMap w b L) (hb : Below B w w') (hB : b < B) : PMap w' b L := (hb.block b hB).trans h
theorem PMap.drewN {w : World} {b : Nat} {L : List Tri} (h : PMap w b L) (n : Nat) : PMap (w.drewN n) b L := h
theorem PMap.set {w : World} {b : Nat} {L : List Tri} (h : PMap w b L) (L' : List Tri) : PMap (World.setMap w b L') b L' := by
  unfold PMap World.setMap
  rw [Array.getElem?_setIfInBounds, if_pos rfl, if_pos h.lt]
theorem Below.setMap {B : Nat} {a w : World} (h : Below B a w) {b : Nat} (hb : B ≤ b) (L : List Tri) : Below B a (World.setMap w b L) :=
  h.trans ⟨rfl, rfl, rfl, by simp [World.setMap], fun k hk => by
    show (w.heap.setIfInBounds b _)[k]? = _
    rw [Array.getElem?_setIfInBounds, if_neg (by omega)]⟩

/-- Any operation whose run is known. -/
theorem wpList_exec {P : Program} {w w' : World} {ops : Array Oper} {rest : List Oper} {o : Oper} {a : Act} {Q : Exit → Act → World → Prop} (hgd : o.guard = none) (v : Value)
    (hrun : (execOp a.eval o).run P w = .ok (.value v) w') (h : wpList P ops Q rest (a.put o.dst v) w') : wpList P ops Q (o :: rest) a w :=
  wpList_plain hgd fun K hK => by unfold Oper.wp; rw [hrun]; exact hK _ _ h
theorem wpList_lookup2 {w : World} {ops : Array Oper} {rest : List Oper} {o : Oper} {a : Act} {Q : Exit → Act → World → Prop} (hgd : o.guard = none) (m k : Operand) (c : Bool) (ho : o.op = .lookup 85 m k c)
    (b : Nat) (x y : Int) (hm : a.eval m = .map (some b)) (hk : a.eval k = .agg #[.int .i64 x, .int .i64 y]) (L : List Tri) (hL : PMap w b L)
    (h : wpList Try.prog ops Q rest (a.put o.dst (if c then .tuple #[.int .i64 (valAt L x y), .bool (hasPair L x y)] else .int .i64 (valAt L x y))) w) : wpList Try.prog ops Q (o :: rest) a w := by
  refine wpList_exec hgd _ ?_ h
  unfold execOp
  simp only [ho, hm, hk, Sem.run_bind, run_lookup2 hL, Result.andThen_ok, Sem.run_pure]
theorem wpList_mapUpdate2 {w : World} {ops : Array Oper} {rest : List Oper} {o : Oper} {a : Act} {Q : Exit → Act → World → Prop} (hgd : o.guard = none) (m k v : Operand) (ho : o.op = .mapUpdate 85 m k v) (hd : o.dst = none)
    (b : Nat) (x y z : Int) (hm : a.eval m = .map (some b)) (hk : a.eval k = .agg #[.int .i64 x, .int .i64 y]) (hv : a.eval v = .int .i64 z) (L : List Tri) (hL : PMap w b L) (hn : hasPair L x y = false)
    (h : wpList Try.prog ops Q rest a (World.setMap w b (L ++ [(x, y, z)]))) : wpList Try.prog ops Q (o :: rest) a w := by
  refine wpList_plain hgd fun K hK => ?_
  unfold Oper.wp execOp
  simp only [ho, hm, hk, hv, Sem.run_bind, run_mapUpdate2 hL x y z hn, Result.andThen_ok, Sem.run_pure]
  have := hK a _ h
  simpa [Oper.upon, Act.put, hd, World.setMap] using this
end Go.Proofs.Ytlfojfndkcmfnaa
namespace Go.Proofs.Ytlfojfndkcmfnaa
open Go.RowKit

/-- Block r is an iterator over map b, which holds L; seen: the places that have come. -/
def PIter (w : World) (r b : Nat) (L : List Tri) (seen : List Nat) : Prop := w.heap[r]? = some (.mapIter (some b) L.length seen.toArray L.length)

theorem run_range2 {w : World} {b : Nat} {L : List Tri} (h : PMap w b L) :
    (Instr.range 85 (.map (some b))).run Try.prog w = .ok (.pointer (some ⟨w.heap.size, 0, none⟩)) (w.alloc (.mapIter (some b) L.length #[] L.length)) := by
  have hb : w.heap[b]? = _ := h
  simp only [Instr.range, Sem.run_bind, run_underlying Try.underlying85, Result.andThen_ok, getObj, Sem.run, hb, Sem.run_pure, newObj]
  rfl

theorem getElem?_ents (L : List Tri) (i : Nat) : (ents L)[i]? = (L[i]?).map (ent i) := by simp [ents]
theorem mem_ents {L : List Tri} {e : MapEntry} (h : e ∈ ents L) : ∃ i p, L[i]? = some p ∧ e = ent i p := by
  obtain ⟨i, hi⟩ := Array.mem_iff_getElem?.1 h
  rw [getElem?_ents] at hi
  obtain ⟨p, hp, rfl⟩ := Option.map_eq_some_iff.1 hi
  exact ⟨i, p, hp, rfl⟩
theorem ent_mem {L : List Tri} {i : Nat} {p : Tri} (h : L[i]? = some p) : ent i p ∈ ents L := by
  apply Array.mem_of_getElem? (i := i)
  rw [getElem?_ents, h]
  rfl

/-- The world behind a step of an iterator. -/
def World.stepIter (w : World) (m r b : Nat) (L : List Tri) (seen : List Nat) : World := { w.drewN m with heap := w.heap.setIfInBounds r (.mapIter (some b) L.length seen.toArray L.length) }

theorem run_next2 {w : World} {r b : Nat} {L : List Tri} {seen : List Nat} (h : PMap w b L) (hi : PIter w r b L seen) (ty : TypeId) :
    (∃ m, (Instr.next (.pointer (some ⟨r, 0, none⟩)) false ty).run Try.prog w = .ok (.tuple #[.bool false]) (w.drewN m) ∧ ∀ i, i < L.length → i ∈ seen) ∨
    ∃ m i p, L[i]? = some p ∧ i ∉ seen ∧ (Instr.next (.pointer (some ⟨r, 0, none⟩)) false ty).run Try.prog w = .ok (.tuple #[.bool true, (ent i p).key, (ent i p).val]) (World.stepIter w m r b L (seen ++ [i])) := by
  have hb : w.heap[b]? = _ := h
  have hr : w.heap[r]? = _ := hi
  have hlt : r < w.heap.size := (Array.getElem?_eq_some_iff.1 hr).1
  have hall : (!seen.toArray.isEmpty && !(ents L).isEmpty && (ents L).all (fun x => decide (x.born ≥ L.length))) = false := by
    cases L with
    | nil => simp [ents]
    | cons p L =>
      have : (ents (p :: L)).all (fun x => decide (x.born ≥ (p :: L).length)) = false := by
        rw [Array.all_eq_false]
        exact ⟨0, by simp [ents], by simp [ents, ent]⟩
      rw [this]
      simp
  have hold : ∀ left : Array MapEntry, (∀ e ∈ left, e ∈ ents L) → left.filter (fun x => decide (x.born < L.length)) = left ∧ left.filter (fun x => decide (x.born ≥ L.length)) = #[] := by
    intro left hl
    have hborn : ∀ e ∈ left, e.born < L.length := by
      intro e he
      obtain ⟨i, p, hp, rfl⟩ := mem_ents (hl e he)
      exact (List.getElem?_eq_some_iff.1 hp).1
    constructor
    · rw [Array.filter_eq_self]
      exact fun e he => decide_eq_true (hborn e he)
    · rw [Array.filter_eq_empty_iff]
      intro e he
      have := hborn e he
      simp; omega
  obtain ⟨left, hleft⟩ : ∃ left, (ents L).filter (fun e => !seen.toArray.contains e.born) = left := ⟨_, rfl⟩
  have hsub : ∀ e ∈ left, e ∈ ents L ∧ e.born ∉ seen := by
    intro e he
    rw [← hleft, Array.mem_filter] at he
    exact ⟨he.1, by simpa using he.2⟩
  obtain ⟨o1, o2⟩ := hold left (fun e he => (hsub e he).1)
  have hnext : (Instr.next (.pointer (some ⟨r, 0, none⟩)) false ty).run Try.prog w =
      ((choose (.mapNext ((if left.isEmpty then #[none] else #[]) ++ (left ++ #[]).map some).size)).run Try.prog w).andThen fun j w' =>
        (match ((if left.isEmpty then #[none] else #[]) ++ (left ++ #[]).map some)[j]? with
          | some (some e) => (do setObj r (.mapIter (some b) L.length (seen.toArray.push e.born) L.length); pure (.tuple #[.bool true, e.key, e.val]) : Sem Value)
          | some none => pure (.tuple #[.bool false])
          | none => stuck "Next: no such candidate").run Try.prog w' := by
    simp only [Instr.next, Sem.run_bind, getObj, Sem.run, hr, hb, Result.andThen_ok, hall, hleft, o1, o2]
    rw [if_neg (by simp)]
    simp only [Sem.run_bind]
    rfl
  rw [hnext]
  by_cases hem : left = #[]
  · subst hem
    refine .inl ⟨0, by simp [choose, Sem.run, Question.forced, World.drewN], fun i hi => ?_⟩
    by_cases hs : i ∈ seen
    · exact hs
    · have : ent i L[i] ∈ (#[] : Array MapEntry) := by
        rw [← hleft, Array.mem_filter]
        exact ⟨ent_mem (List.getElem?_eq_getElem hi), by simpa [ent] using hs⟩
      simp at this
  · right
    have hne : left.isEmpty = false := by simpa using hem
    have hpos : 0 < left.size := Array.size_pos_iff.2 hem
    have hcs : ((if left.isEmpty then #[none] else #[]) ++ (left ++ #[]).map some) = left.map some := by simp [hne]
    rw [hcs]
    obtain ⟨j, m, hj, hch⟩ : ∃ j m, j < left.size ∧ (choose (.mapNext (left.map some).size)).run Try.prog w = .ok j (w.drewN m) := by
      by_cases h1 : left.size ≤ 1
      · exact ⟨0, 0, hpos, by simp [choose, Sem.run, Question.forced, h1, World.drewN]⟩
      · exact ⟨_, 1, Nat.mod_lt _ hpos, by simp [choose, Sem.run, Question.forced, h1, World.drewN, Question.cut]; rfl⟩
    rw [hch]
    obtain ⟨i, p, hp, he⟩ := mem_ents (hsub left[j] (Array.getElem_mem hj)).1
    have hns := (hsub left[j] (Array.getElem_mem hj)).2
    rw [he] at hns
    refine ⟨m, i, p, hp, hns, ?_⟩
    have hr' : (w.drewN m).heap[r]? = _ := hr
    have hm : (left.map some)[j]? = some (some (ent i p)) := by simp [hj, he]
    simp only [Result.andThen_ok, hm, Sem.run_bind, setObj, Sem.run, hr', Sem.run_pure]
    simp [World.stepIter, ent, World.drewN]

theorem run_entry2 {w : World} {r b : Nat} {L : List Tri} {seen : List Nat} {i : Nat} {p : Tri} (h : PMap w b L) (hi : PIter w r b L (seen ++ [i])) (hp : L[i]? = some p) :
    (Instr.entry (.pointer (some ⟨r, 0, none⟩))).run Try.prog w = .ok (.tuple #[(ent i p).key, (ent i p).val]) w := by
  have hb : w.heap[b]? = _ := h
  have hr : w.heap[r]? = _ := hi
  have hback : (seen ++ [i]).toArray.back? = some i := by simp
  have hfind : (ents L).find? (fun x => x.born == i) = some (ent i p) := by
    rw [Array.find?_eq_some_iff_getElem]
    obtain ⟨hlt, e⟩ := List.getElem?_eq_some_iff.1 hp
    refine ⟨by simp [ent], i, by simpa [ents] using hlt, by simp [ents, e], fun j hj => ?_⟩
    simp [ents, ent]
    omega
  simp only [Instr.entry, Sem.run_bind, getObj, Sem.run, hr, hb, Result.andThen_ok, hback, hfind]
  simp

theorem wpList_range2 {w : World} {ops : Array Oper} {rest : List Oper} {o : Oper} {a : Act} {Q : Exit → Act → World → Prop} (hgd : o.guard = none) (x : Operand) (ho : o.op = .range 85 x)
    (b : Nat) (hx : a.eval x = .map (some b)) (L : List Tri) (hL : PMap w b L)
    (h : wpList Try.prog ops Q rest (a.put o.dst (.pointer (some ⟨w.heap.size, 0, none⟩))) (w.alloc (.mapIter (some b) L.length #[] L.length))) : wpList Try.prog ops Q (o :: rest) a w := by
  refine wpList_exec hgd _ ?_ h
  unfold execOp
  simp only [ho, hx, Sem.run_bind, run_range2 hL, Result.andThen_ok, Sem.run_pure]
theorem wpList_next2 {w : World} {ops : Array Oper} {rest : List Oper} {o : Oper} {a : Act} {Q : Exit → Act → World → Prop} (hgd : o.guard = none) (x : Operand) (ho : o.op = .next x false)
    (r b : Nat) (hx : a.eval x = .pointer (some ⟨r, 0, none⟩)) (L : List Tri) (seen : List Nat) (hL : PMap w b L) (hI : PIter w r b L seen)
    (hend : ∀ m, (∀ i, i < L.length → i ∈ seen) → wpList Try.prog ops Q rest (a.put o.dst (.tuple #[.bool false])) (w.drewN m))
    (hgo : ∀ m i p, L[i]? = some p → i ∉ seen → wpList Try.prog ops Q rest (a.put o.dst (.tuple #[.bool true, .agg #[.int .i64 p.1, .int .i64 p.2.1], .int .i64 p.2.2])) (World.stepIter w m r b L (seen ++ [i]))) : wpList Try.prog ops Q (o :: rest) a w := by
  rcases run_next2 hL hI o.type with ⟨m, hr, h1⟩ | ⟨m, i, p, h1, h2, hr⟩
  · refine wpList_exec hgd _ ?_ (hend m h1)
    unfold execOp
    simp only [ho, hx, Sem.run_bind, hr, Result.andThen_ok, Sem.run_pure]
  · refine wpList_exec hgd _ ?_ (hgo m i p h1 h2)
    unfold execOp
    simp only [ho, hx, Sem.run_bind, hr, Result.andThen_ok, Sem.run_pure, ent]
theorem wpList_entry2 {w : World} {ops : Array Oper} {rest : List Oper} {o : Oper} {a : Act} {Q : Exit → Act → World → Prop} (hgd : o.guard = none) (x : Operand) (ho : o.op = .entry x)
    (r b : Nat) (hx : a.eval x = .pointer (some ⟨r, 0, none⟩)) (L : List Tri) (seen : List Nat) (i : Nat) (p : Tri) (hL : PMap w b L) (hI : PIter w r b L (seen ++ [i])) (hp : L[i]? = some p)
    (h : wpList Try.prog ops Q rest (a.put o.dst (.tuple #[.agg #[.int .i64 p.1, .int .i64 p.2.1], .int .i64 p.2.2])) w) : wpList Try.prog ops Q (o :: rest) a w := by
  refine wpList_exec hgd _ ?_ h
  unfold execOp
  simp only [ho, hx, Sem.run_bind, run_entry2 hL hI hp, Result.andThen_ok, Sem.run_pure, ent]

section
variable {w : World} {r b : Nat} {L : List Tri} {seen seen' : List Nat}
theorem PIter.lt (h : PIter w r b L seen) : r < w.heap.size := (Array.getElem?_eq_some_iff.1 h).1
theorem PIter.alloc (h : PIter w r b L seen) (o : Obj) : PIter (w.alloc o) r b L seen := (Below.heap_alloc w o r h.lt).trans h
theorem PIter.step (h : PIter w r b L seen) (m : Nat) : PIter (World.stepIter w m r b L seen') r b L seen' := by
  unfold PIter World.stepIter
  show (w.heap.setIfInBounds r _)[r]? = _
  rw [Array.getElem?_setIfInBounds, if_pos rfl, if_pos h.lt]
theorem PMap.step {b' : Nat} {L' : List Tri} (h : PMap w b' L') (hne : b' ≠ r) (m : Nat) : PMap (World.stepIter w m r b L seen') b' L' := by
  unfold PMap World.stepIter
  show (w.heap.setIfInBounds r _)[b']? = _
  rw [Array.getElem?_setIfInBounds, if_neg (by omega)]
  exact h
theorem Below.stepIter {B : Nat} {a : World} (h : Below B a w) (hr : B ≤ r) (m : Nat) : Below B a (World.stepIter w m r b L seen') :=
  h.trans ⟨rfl, rfl, rfl, by simp [World.stepIter], fun k hk => by
    show (w.heap.setIfInBounds r _)[k]? = _
    rw [Array.getElem?_setIfInBounds, if_neg (by omega)]⟩
theorem size_stepIter (m : Nat) : (World.stepIter w m r b L seen').heap.size = w.heap.size := by simp [World.stepIter]
theorem size_setMap : (World.setMap w b L).heap.size = w.heap.size := by simp [World.setMap]
end
end Go.Proofs.Ytlfojfndkcmfnaa
namespace Go.Proofs.Ytlfojfndkcmfnaa

abbrev Ports := List (List (Int × Int))
def SymOk (ports : Ports) : Prop :=
  (∀ v : Fin ports.length, linksOk ports[v] (v.1 : Int) (ports.length : Int)) ∧ (∀ v : Fin ports.length, ∀ l ∈ ports[v], ((v.1 : Int), l.2) ∈ ports.getD l.1.toNat [])
instance (ports : Ports) : Decidable (SymOk ports) := by unfold SymOk; infer_instance
def symB (ports : Ports) : Bool := decide (SymOk ports)

def tri (v : Nat) (l : Int × Int) : Tri := ((v : Int), l.1, l.2)
def trisTo (ports : Ports) (v : Nat) : List Tri := ((List.range v).map (fun u => (ports.getD u []).map (tri u))).flatten
def trisAt (ports : Ports) (v i : Nat) : List Tri := trisTo ports v ++ ((ports.getD v []).take i).map (tri v)

theorem trisTo_succ (ports : Ports) (v : Nat) : trisTo ports (v + 1) = trisTo ports v ++ (ports.getD v []).map (tri v) := by
  simp [trisTo, List.range_succ]
theorem trisAt_zero (ports : Ports) (v : Nat) : trisAt ports v 0 = trisTo ports v := by simp [trisAt]
theorem trisAt_snoc (ports : Ports) (v i : Nat) (ls : List (Int × Int)) (hls : ports[v]? = some ls) (hi : i < ls.length) : trisAt ports v (i + 1) = trisAt ports v i ++ [((v : Int), ls[i].1, ls[i].2)] := by
  have e : ports.getD v [] = ls := by simp [List.getD, hls]
  unfold trisAt
  rw [e, take_snoc ls i hi, List.map_append, List.append_assoc]
  rfl
theorem trisAt_full (ports : Ports) (v : Nat) (ls : List (Int × Int)) (hls : ports[v]? = some ls) : trisAt ports v ls.length = trisTo ports (v + 1) := by
  have e : ports.getD v [] = ls := by simp [List.getD, hls]
  rw [trisTo_succ]
  unfold trisAt
  rw [e, List.take_length]
theorem mem_trisTo {ports : Ports} {v : Nat} {p : Tri} : p ∈ trisTo ports v ↔ ∃ u, u < v ∧ ∃ l ∈ ports.getD u [], p = tri u l := by
  unfold trisTo
  simp only [List.mem_flatten, List.mem_map, List.mem_range]
  constructor
  · rintro ⟨q, ⟨u, hu, rfl⟩, hp⟩
    obtain ⟨l, hl, rfl⟩ := List.mem_map.1 hp
    exact ⟨u, hu, l, hl, rfl⟩
  · rintro ⟨u, hu, l, hl, rfl⟩
    exact ⟨_, ⟨u, hu, rfl⟩, List.mem_map.2 ⟨l, hl, rfl⟩⟩
theorem hasPair_iff {L : List Tri} {x y : Int} : hasPair L x y = true ↔ ∃ p ∈ L, p.1 = x ∧ p.2.1 = y := by
  unfold hasPair
  rw [List.find?_isSome]
  constructor
  · rintro ⟨p, hp, h⟩
    simp [hit] at h
    exact ⟨p, hp, h.1.symm, h.2.symm⟩
  · rintro ⟨p, hp, rfl, rfl⟩
    exact ⟨p, hp, by simp [hit]⟩
theorem hasPair_trisAt {ports : Ports} {v i : Nat} {ls : List (Int × Int)} (hls : ports[v]? = some ls) {y : Int} : hasPair (trisAt ports v i) (v : Int) y = true ↔ ∃ l ∈ ls.take i, l.1 = y := by
  have e : ports.getD v [] = ls := by simp [List.getD, hls]
  rw [hasPair_iff]
  unfold trisAt
  rw [e]
  constructor
  · rintro ⟨p, hp, h1, h2⟩
    rcases List.mem_append.1 hp with hp | hp
    · obtain ⟨u, hu, l, hl, rfl⟩ := mem_trisTo.1 hp
      simp [tri] at h1
      omega
    · obtain ⟨l, hl, rfl⟩ := List.mem_map.1 hp
      exact ⟨l, hl, h2⟩
  · rintro ⟨l, hl, rfl⟩
    exact ⟨tri v l, List.mem_append_right _ (List.mem_map.2 ⟨l, hl, rfl⟩), rfl, rfl⟩

theorem symB_false_links {ports : Ports} {v k : Nat} {ls : List (Int × Int)} (hls : ports[v]? = some ls) (h : ¬ linksOk (ls.take k) (v : Int) (ports.length : Int)) : symB ports = false := by
  unfold symB
  rw [decide_eq_false_iff_not]
  intro hs
  obtain ⟨hv, e⟩ := List.getElem?_eq_some_iff.1 hls
  have := hs.1 ⟨v, hv⟩
  simp only [Fin.getElem_fin, e] at this
  exact h (linksOk_take _ _ _ _ this)

def AllLinks (ports : Ports) : Prop := ∀ (v : Nat) ls, ports[v]? = some ls → linksOk ls (v : Int) (ports.length : Int)

theorem valAt_iff {ports : Ports} (ha : AllLinks ports) {v : Nat} {ls : List (Int × Int)} (hls : ports[v]? = some ls) {l : Int × Int} (hl : l ∈ ls) :
    valAt (trisTo ports ports.length) l.1 (v : Int) = l.2 ↔ ((v : Int), l.2) ∈ ports.getD l.1.toNat [] := by
  have hlk := (ha v ls hls).1 l hl
  unfold linkOk at hlk
  have hto : l.1.toNat < ports.length := by omega
  have hgd : ports[l.1.toNat]? = some (ports.getD l.1.toNat []) := by simp [List.getD, List.getElem?_eq_getElem hto]
  unfold valAt
  cases hf : (trisTo ports ports.length).find? (hit l.1 (v : Int)) with
  | none =>
    simp only [Option.map_none, Option.getD_none]
    constructor
    · intro e; omega
    · intro hm
      exfalso
      rw [List.find?_eq_none] at hf
      refine hf (tri l.1.toNat ((v : Int), l.2)) (mem_trisTo.2 ⟨_, hto, _, hm, rfl⟩) ?_
      simp [hit, tri]
      omega
  | some q =>
    have hq := List.mem_of_find?_eq_some hf
    have hh := List.find?_some hf
    simp [hit] at hh
    obtain ⟨u, hu, l', hl', rfl⟩ := mem_trisTo.1 hq
    simp only [tri] at hh ⊢
    obtain ⟨h1, h2⟩ := hh
    have hul : u = l.1.toNat := by omega
    subst hul
    simp only [Option.map_some, Option.getD_some]
    generalize ports.getD l.1.toNat [] = ls' at hgd hl' ⊢
    constructor
    · intro e
      have : l' = ((v : Int), l.2) := by
        obtain ⟨a, b⟩ := l'
        simp only at e h2
        rw [h2, e]
      rw [← this]
      exact hl'
    · intro hm
      have hnd := (ha _ _ hgd).2
      obtain ⟨i, hi, e1⟩ := List.mem_iff_getElem.1 hl'
      obtain ⟨j, hj, e2⟩ := List.mem_iff_getElem.1 hm
      have hij : i = j := by
        rcases Nat.lt_trichotomy i j with h | h | h
        · have h3 := (List.pairwise_iff_getElem.1 hnd) i j (by simpa using hi) (by simpa using hj) h
          simp [e1, e2, h2] at h3
        · exact h
        · have h3 := (List.pairwise_iff_getElem.1 hnd) j i (by simpa using hj) (by simpa using hi) h
          simp [e1, e2, h2] at h3
      subst hij
      rw [e1] at e2
      rw [e2]

theorem symB_false_val {ports : Ports} (ha : AllLinks ports) {p : Tri} (hp : p ∈ trisTo ports ports.length) (hv : valAt (trisTo ports ports.length) p.2.1 p.1 ≠ p.2.2) : symB ports = false := by
  obtain ⟨u, hu, l, hl, rfl⟩ := mem_trisTo.1 hp
  have hls : ports[u]? = some (ports.getD u []) := by simp [List.getD, List.getElem?_eq_getElem hu]
  unfold symB
  rw [decide_eq_false_iff_not]
  intro hs
  refine hv ((valAt_iff ha hls hl).2 ?_)
  have := hs.2 ⟨u, hu⟩ l (by simpa [List.getD, List.getElem?_eq_getElem hu] using hl)
  exact this
theorem symB_true {ports : Ports} (ha : AllLinks ports) (h : ∀ p ∈ trisTo ports ports.length, valAt (trisTo ports ports.length) p.2.1 p.1 = p.2.2) : symB ports = true := by
  refine decide_eq_true ⟨?_, ?_⟩
  · rintro ⟨v, hv⟩
    exact ha v _ (List.getElem?_eq_getElem hv)
  · rintro ⟨v, hv⟩ l hl
    have hls : ports[v]? = some ports[v] := List.getElem?_eq_getElem hv
    refine (valAt_iff ha hls hl).1 (h (tri v l) (mem_trisTo.2 ⟨v, hv, l, ?_, rfl⟩))
    simpa [List.getD, hls] using hl
end Go.Proofs.Ytlfojfndkcmfnaa
namespace Go.Proofs.Ytlfojfndkcmfnaa
open Go.RowKit

theorem linksOk_full {ls : List (Int × Int)} {v n : Int} (h : linksOk (ls.take ls.length) v n) : linksOk ls v n := by rwa [List.take_length] at h

set_option maxHeartbeats 2000000 in
theorem symmetric_any (pv : Value) (ports : Ports) (w : World) (hp : PortsAt w pv ports) (hn : ports.length ≤ 1000) :
    Calls Try.prog 95 #[pv] w fun e w' => e = .returned (.bool (symB ports)) ∧ Below w.heap.size w w' := by
  obtain ⟨A2, c2, rfl, hB1, hB2⟩ := slAt_form hp
  have Hp := Lib.hid hp
  clear hp
  have hmm := @run_makeMap Try.prog
  go_enter Try.func95, Try.ntmps95
  go_wp2
  clear hmm
  go_loopg [16] ports.length (fun q t wr => ∃ v : Nat, q + v = ports.length ∧ t = .int .i64 v ∧ Hid (Below w.heap.size w wr) ∧ Hid (PMap wr w.heap.size (trisTo ports v)) ∧ Hid (∀ (u : Nat) ls, u < v → ports[u]? = some ls → linksOk ls u ports.length))
  case atStart => exact ⟨0, by omega, rfl, Lib.hid ((Below.refl _ _).alloc (Nat.le_refl _) _), Lib.hid (heap_alloc_new w _), Lib.hid (fun u ls hu => absurd hu (by omega))⟩
  case round =>
    obtain ⟨v, hq, rfl, hbel, hmap, hlk⟩ := hrel
    by_cases hlt : v < ports.length
    · obtain ⟨b2, off2, lv, rfl, hb2, hcl, hls⟩ := rowsAt_at Hp.out (List.getElem?_eq_getElem hlt)
      obtain ⟨A3, c3, rfl, hl1, hl2⟩ := slAt_form hls
      have hcl' := keepCells hbel.out _ _ hcl
      clear hcl
      obtain ⟨ls, hle⟩ : ∃ ls, ports[v] = ls := ⟨_, rfl⟩
      have Hlp := Lib.hid (show ports[v]? = some ls by rw [List.getElem?_eq_getElem hlt, hle])
      rw [hle] at hls hcl' hl1
      have Hls := Lib.hid hls
      clear hls hle
      go_wp2
      obtain ⟨go, rfl⟩ : ∃ go, go = gk := ⟨_, rfl⟩
      go_loopg [23] ls.length (fun q t wr => ∃ i : Nat, q + i = ls.length ∧ t = .int .i64 i ∧ Hid (Below w.heap.size w wr) ∧ Hid (PMap wr w.heap.size (trisAt ports v i)) ∧ Hid (linksOk (ls.take i) v ports.length))
      case atStart => exact ⟨0, by omega, rfl, hbel, Lib.hid (by rw [trisAt_zero]; exact hmap.out), Lib.hid ⟨by simp, by simp⟩⟩
      case round =>
        clear hbel hmap hcl'
        obtain ⟨i, hqi, rfl, hbel, hmap, hok⟩ := hrel
        have hmlt : w.heap.size < wr.heap.size := hmap.out.lt
        by_cases hil : i < ls.length
        · obtain ⟨A4, c4, e4, _, _, hE⟩ := Hls.out.below Stable.link hbel.out
          cases e4
          obtain ⟨b3, off3, rfl, hb3, hE⟩ := hE (by omega)
          obtain ⟨⟨l1, wt⟩, hle⟩ : ∃ l, ls[i] = l := ⟨_, rfl⟩
          have hl? : ls[i]? = some (l1, wt) := by rw [List.getElem?_eq_getElem hil, hle]
          obtain ⟨hx1, hx2, ⟨hr1, hr2⟩, ⟨hr3, hr4⟩⟩ := hE i _ hl?
          simp only at hx1 hx2 hr1 hr2 hr3 hr4
          have hsn := linksOk_snoc ls v ports.length i hil
          rw [hle] at hsn
          have Hsn := Lib.hid hsn
          have Hbad := Lib.hid (fun h => symB_false_links (ports := ports) (v := v) (k := i + 1) Hlp.out h)
          have Hsc := Lib.hid (trisAt_snoc ports v i ls Hlp.out hil)
          rw [hle] at Hsc
          have HE := Lib.hid hE
          have Hle := Lib.hid hle
          clear hE hl? hle hsn
          by_cases c1 : 0 ≤ l1 ∧ l1 ≤ ports.length - 1
          · obtain ⟨c1a, c1b⟩ := c1
            by_cases c2 : l1 = v
            · have c2' : (l1 == (v : Int)) = true := by simp [c2]
              have Hf := Lib.hid (Hbad.out (fun h => ((Hsn.out.1 h).2.1).2.2.1 c2))
              clear c2
              go_wp2
              go_ret
              exact ⟨ret_bool Hf.out.symm, (hbel.out.alloc (by omega) _)⟩
            · have c2' : (l1 == (v : Int)) = false := by simp [c2]
              have Hc2 := Lib.hid c2
              clear c2
              by_cases c3 : 1 ≤ wt ∧ wt ≤ 15
              · obtain ⟨c3a, c3b⟩ := c3
                by_cases c4 : hasPair (trisAt ports v i) v l1 = true
                · have Hf := Lib.hid (Hbad.out (fun h => by
                    obtain ⟨l, hl, e⟩ := (hasPair_trisAt Hlp.out).1 c4
                    obtain ⟨j, hj, rfl⟩ := List.mem_take_iff_getElem.1 hl
                    exact (Hsn.out.1 h).2.2 j (by omega) e))
                  go_wp2_with (at_lookup; refine wpList_lookup2 rfl _ _ _ rfl w.heap.size (v : Int) l1 rfl (by rfl) (trisAt ports v i) ((hmap.out.alloc _).alloc _) ?_)
                  go_ret
                  exact ⟨ret_bool Hf.out.symm, ((hbel.out.alloc (by omega) _).alloc (by simp; omega) _)⟩
                · have c4' : hasPair (trisAt ports v i) v l1 = false := by simpa using c4
                  have Hnew := Lib.hid (show linksOk (ls.take (i + 1)) v ports.length from Hsn.out.2 ⟨hok.out, ⟨c1a, by simpa using c1b, Hc2.out, c3a, c3b⟩, fun j hj e => c4 ((hasPair_trisAt Hlp.out).2 ⟨ls[j], List.mem_take_iff_getElem.2 ⟨j, by omega, rfl⟩, e⟩)⟩)
                  clear c4
                  go_wp2_with (first
                    | (at_lookup; refine wpList_lookup2 rfl _ _ _ rfl w.heap.size (v : Int) l1 rfl (by rfl) (trisAt ports v i) ((hmap.out.alloc _).alloc _) ?_)
                    | (at_mapUpdate; refine wpList_mapUpdate2 rfl _ _ _ rfl rfl w.heap.size (v : Int) l1 wt rfl (by rfl) (by rfl) (trisAt ports v i) ((hmap.out.alloc _).alloc _) c4' ?_))
                  go_roundg (gk - 1)
                  case measure => omega
                  case rel =>
                    refine ⟨i + 1, by omega, by go_num, Lib.hid ?_, Lib.hid ?_, Hnew⟩
                    · exact Below.setMap ((hbel.out.alloc (by omega) _).alloc (by simp; omega) _) (Nat.le_refl _) _
                    · rw [Hsc.out]
                      exact PMap.set ((hmap.out.alloc _).alloc _) _
              · have Hf := Lib.hid (Hbad.out (fun h => c3 ⟨((Hsn.out.1 h).2.1).2.2.2.1, ((Hsn.out.1 h).2.1).2.2.2.2⟩))
                by_cases c5 : wt < 1
                · clear c3
                  go_wp2
                  go_ret
                  exact ⟨ret_bool Hf.out.symm, (hbel.out.alloc (by omega) _)⟩
                · have c6 : 15 < wt := by omega
                  clear c3
                  go_wp2
                  go_ret
                  exact ⟨ret_bool Hf.out.symm, (hbel.out.alloc (by omega) _)⟩
          · have Hf := Lib.hid (Hbad.out (fun h => c1 ⟨((Hsn.out.1 h).2.1).1, ((Hsn.out.1 h).2.1).2.1⟩))
            by_cases c5 : l1 < 0
            · clear c1
              go_wp2
              go_ret
              exact ⟨ret_bool Hf.out.symm, (hbel.out.alloc (by omega) _)⟩
            · have c6 : (ports.length : Int) ≤ l1 := by omega
              clear c1
              go_wp2
              go_ret
              exact ⟨ret_bool Hf.out.symm, (hbel.out.alloc (by omega) _)⟩
        · obtain rfl : i = ls.length := by omega
          go_wp2
          go_roundg (go - 1)
          case measure => omega
          case rel =>
            refine ⟨v + 1, by omega, by go_num, hbel, Lib.hid (by rw [← trisAt_full ports v ls Hlp.out]; exact hmap.out), Lib.hid (fun u ls' hu hls' => ?_)⟩
            by_cases huv : u < v
            · exact hlk.out u ls' huv hls'
            · obtain rfl : u = v := by omega
              rw [Hlp.out] at hls'
              cases hls'
              exact linksOk_full hok.out
    · obtain rfl : v = ports.length := by omega
      have Hal := Lib.hid (show AllLinks ports from fun v ls hls => hlk.out v ls (List.getElem?_eq_some_iff.1 hls).1 hls)
      have hmlt : w.heap.size < wr.heap.size := hmap.out.lt
      go_wp2_with (at_range; refine wpList_range2 rfl _ rfl w.heap.size rfl (trisTo ports ports.length) hmap.out ?_)
      go_frame
      obtain ⟨L, hL⟩ : ∃ L, L = trisTo ports ports.length := ⟨_, rfl⟩
      rw [← hL] at hmap ⊢
      have HL := Lib.hid hL
      clear hL
      obtain ⟨r, hr⟩ : ∃ r, r = wr.heap.size := ⟨_, rfl⟩
      rw [← hr] at hmlt ⊢
      go_loopg [70] (L.length + 1) (fun q t wr => ∃ seen : List Nat, q + seen.length = L.length + 1 ∧ Hid (Below w.heap.size w wr) ∧ Hid (PMap wr w.heap.size L) ∧ Hid (PIter wr r w.heap.size L seen) ∧ Hid (seen.Nodup ∧ ∀ i ∈ seen, ∃ p, L[i]? = some p ∧ valAt L p.2.1 p.1 = p.2.2))
      case atStart =>
        refine ⟨[], by simp, Lib.hid (hbel.out.alloc (by omega) _), Lib.hid (hmap.out.alloc _), Lib.hid ?_, Lib.hid ⟨by simp, by simp⟩⟩
        rw [hr]
        exact heap_alloc_new wr _
      case round =>
        clear hbel hmap hr
        obtain ⟨seen, hq, hbel, hmap, hit, hseen⟩ := hrel
        go_wp2_with (at_next; refine wpList_next2 rfl _ rfl r w.heap.size rfl L seen hmap.out hit.out ?hend ?hgo)
        case hend =>
          intro m hall
          have Ht := Lib.hid (show symB ports = true from symB_true Hal.out (fun p hp => by
            rw [← HL.out] at hp ⊢
            obtain ⟨i, hi, rfl⟩ := List.mem_iff_getElem.1 hp
            obtain ⟨p, hp', hv⟩ := hseen.out.2 i (hall i hi)
            rw [List.getElem?_eq_getElem hi] at hp'
            cases hp'
            exact hv))
          clear hall
          go_wp2
          go_ret
          exact ⟨ret_bool Ht.out.symm, below_drewN hbel.out _⟩
        case hgo =>
          intro m i x y z hp hns
          have hil : i < L.length := (List.getElem?_eq_some_iff.1 hp).1
          have Hb1 := Lib.hid (Below.stepIter (L := L) (b := w.heap.size) (seen' := seen ++ [i]) hbel.out (r := r) (by omega) m)
          have Hm1 := Lib.hid (PMap.step (b := w.heap.size) (L := L) (seen' := seen ++ [i]) hmap.out (r := r) (by omega) m)
          have Hi1 := Lib.hid (PIter.step (seen' := seen ++ [i]) hit.out m)
          have Hp := Lib.hid hp
          have Hn := Lib.hid hns
          obtain ⟨w1, hw1⟩ : ∃ w1, w1 = World.stepIter wr m r w.heap.size L (seen ++ [i]) := ⟨_, rfl⟩
          rw [← hw1] at Hb1 Hm1 Hi1 ⊢
          clear hw1 hbel hmap hit hp hns
          have hz1 : r < w1.heap.size := Hi1.out.lt
          by_cases hv : valAt L y x = z
          · have hv' : (valAt L y x != z) = false := by simp [hv]
            have Hv := Lib.hid hv
            clear hv
            go_wp2_with (first
              | (at_lookup; refine wpList_lookup2 rfl _ _ _ rfl w.heap.size y x rfl (by rfl) L (Hm1.out.alloc _) ?_)
              | (with_reducible refine wpList_entry2 rfl _ rfl r w.heap.size rfl L seen i (x, y, z) Hm1.out Hi1.out Hp.out ?_))
            have hsz := Lib.hid (show (seen ++ [i]).length ≤ L.length by
              have hnd : (seen ++ [i]).Nodup := by
                rw [List.nodup_append]
                exact ⟨hseen.out.1, by simp, fun a ha b hb e => by simp at hb; subst hb e; exact Hn.out ha⟩
              have hsub : (seen ++ [i]) ⊆ List.range L.length := by
                intro j hj
                rcases List.mem_append.1 hj with hj | hj
                · obtain ⟨p, hp, _⟩ := hseen.out.2 j hj
                  simp [(List.getElem?_eq_some_iff.1 hp).1]
                · simp at hj; subst hj; simpa using hil
              simpa using List.Nodup.length_le_of_subset hnd hsub)
            go_roundg (gk - 1)
            case measure => have := hsz.out; simp at this; omega
            case rel =>
              have h0 := hsz.out
              simp only [List.length_append, List.length_cons, List.length_nil] at h0
              refine ⟨seen ++ [i], by simp; omega, Lib.hid (Hb1.out.alloc (by omega) _), Lib.hid (Hm1.out.alloc _), Lib.hid (Hi1.out.alloc _), Lib.hid ⟨?_, fun j hj => ?_⟩⟩
              · rw [List.nodup_append]
                exact ⟨hseen.out.1, by simp, fun a ha b hb e => by simp at hb; subst hb e; exact Hn.out ha⟩
              · rcases List.mem_append.1 hj with hj | hj
                · exact hseen.out.2 j hj
                · simp at hj
                  subst hj
                  exact ⟨_, Hp.out, Hv.out⟩
          · have hv' : (valAt L y x != z) = true := by simp [hv]
            have Hf := Lib.hid (show symB ports = false from symB_false_val Hal.out (p := (x, y, z)) (by rw [← HL.out]; exact List.mem_of_getElem? Hp.out) (by rw [← HL.out]; exact hv))
            clear hv
            go_wp2_with (first
              | (at_lookup; refine wpList_lookup2 rfl _ _ _ rfl w.heap.size y x rfl (by rfl) L (Hm1.out.alloc _) ?_)
              | (with_reducible refine wpList_entry2 rfl _ rfl r w.heap.size rfl L seen i (x, y, z) Hm1.out Hi1.out Hp.out ?_))
            go_ret
            exact ⟨ret_bool Hf.out.symm, Hb1.out.alloc (by omega) _⟩
end Go.Proofs.Ytlfojfndkcmfnaa
namespace Go.Proofs.Ytlfojfndkcmfnaa
namespace Ev
open Go Go.RowKit

section
variable {φ : Phi} {M : AM} {w : World} {m : Mem}

theorem inI64_spec {n : Int} (h : inI64 n = true) : I64 n := by
  unfold inI64 at h
  split at h
  · have := Nat.le_of_ble_eq_true h; unfold I64; rename_i k; simp only [Int.ofNat_eq_natCast]; omega
  · have := Nat.le_of_ble_eq_true h; unfold I64; omega
theorem pairsOf_spec : ∀ {l : List Value} {xs : List (Int × Int)}, pairsOf l = some xs → l.length = xs.length * 2 ∧ ∀ j x, xs[j]? = some x → l[j * 2]? = some (.int .i64 x.1) ∧ l[j * 2 + 1]? = some (.int .i64 x.2) ∧ I64 x.1 ∧ I64 x.2
  | [], xs, h => by cases h; exact ⟨rfl, by simp⟩
  | .int .i64 a :: .int .i64 b :: l, xs, h => by
    unfold pairsOf at h
    split at h
    · rename_i r hr
      rw [Bool.cond_eq_ite] at h
      split at h
      · rename_i hc
        cases h
        simp only [Bool.and_eq_true] at hc
        obtain ⟨h1, h2⟩ := pairsOf_spec hr
        refine ⟨by simp [h1]; omega, fun j x hx => ?_⟩
        cases j with
        | zero => simp at hx; subst hx; exact ⟨rfl, rfl, inI64_spec hc.1, inI64_spec hc.2⟩
        | succ j =>
          have := h2 j x (by simpa using hx)
          rw [show (j + 1) * 2 = j * 2 + 1 + 1 by omega]
          simpa using this
      · cases h
    · cases h
theorem mapO_spec {α β : Type} {f : α → Option β} : ∀ {l : List α} {r : List β}, mapO f l = some r → l.length = r.length ∧ ∀ (j : Nat) (y : β), r[j]? = some y → ∃ x, l[j]? = some x ∧ f x = some y
  | [], r, h => by cases h; exact ⟨rfl, by simp⟩
  | x :: l, r, h => by
    unfold mapO at h
    split at h
    · cases h
    · rename_i y hy
      split at h
      · cases h
      · rename_i r' hr
        cases h
        obtain ⟨h1, h2⟩ := mapO_spec hr
        refine ⟨by simp [h1], fun j z hz => ?_⟩
        cases j with
        | zero => simp at hz; subst hz; exact ⟨x, rfl, hy⟩
        | succ j => simpa using h2 j z (by simpa using hz)

/-- A slice that the evaluator reads, read in the world. -/
theorem rowOf_slAt {α : Type} {size : Nat} {E : Elem α} {v v' : Value} {l : List Value} {ft : List Nat} {xs : List α} (h : rowOf m size v = some (l, ft)) (hv : VR φ v v') (hR : Rel φ M w) (hs : Sub m M) (hlen : l.length = xs.length * size) (h0 : size ≠ 0)
    (hE : ∀ (l' : List Value) (b off : Nat), VRL φ l l' → (∀ j u, l'[j]? = some u → w.cell? ⟨b, off + j, none⟩ = some u) → ∀ j x, xs[j]? = some x → E w b (off + j * size) x) : SlAt size E w v' xs := by
  unfold rowOf at h
  split at h
  · cases h
    have e := hv.eq_simple rfl
    subst e
    have : xs = [] := by
      rcases Nat.mul_eq_zero.1 (show xs.length * size = 0 from hlen.symm) with h | h
      · exact List.eq_nil_of_length_eq_zero h
      · exact absurd h h0
    subst this
    exact SlAt.nil w
  · rename_i a len cap
    obtain ⟨lc, A, c', k1, k2, k3, k4, k5, k6, k7⟩ := hv.slice_inv
    subst k3
    split at h
    · cases h
    · rw [Bool.cond_eq_ite] at h
      split at h
      · rename_i hl0
        have hl0 := Nat.eq_of_beq_eq_true hl0
        subst hl0
        cases h
        have : xs = [] := by
          rcases Nat.mul_eq_zero.1 (show xs.length * size = 0 from hlen.symm) with h | h
          · exact List.eq_nil_of_length_eq_zero h
          · exact absurd h h0
        subst this
        exact ⟨some A, c', rfl, Nat.zero_le _, k6, fun q => absurd q (by simp)⟩
      · rename_i hl0
        split at h
        · rename_i c n e z hb
          rw [Bool.cond_eq_ite] at h
          split at h
          · rename_i hn
            have hn := Nat.le_of_ble_eq_true hn
            split at h
            · rename_i l2 hl2
              cases h
              have hlen2 := (getCells_some hl2).1
              have hxl : xs.length = len := by
                rw [hlen2] at hlen
                exact (Nat.eq_of_mul_eq_mul_right (by omega) hlen).symm
              obtain ⟨lc', cs, e', fz, g1, g2, g3, _, g4, g5, g6⟩ := hR.cellsAt (hs _ _ hb)
              rw [k1] at g1
              cases g1
              obtain ⟨l', r1, r2⟩ := cellsRead g6 hl2 hn
              subst hxl
              refine ⟨some A, c', rfl, k4, k6, fun hpos => ?_⟩
              rcases k7 with ⟨rfl, _⟩ | k7
              · refine ⟨lc.blk, lc.base + a.off, rfl, (Array.getElem?_eq_some_iff.1 g4).1, hE l' _ _ r1 fun j u hu => cell_of g4 (r2 j u hu)⟩
              · omega
            · cases h
          · cases h
        · cases h
  · cases h

theorem linksOf_at {v v' : Value} {xs : List (Int × Int)} (h : linksOf m v = some xs) (hv : VR φ v v') (hR : Rel φ M w) (hs : Sub m M) : LinksAt w v' xs := by
  unfold linksOf at h
  split at h
  · rename_i l ft hl
    obtain ⟨h1, h2⟩ := pairsOf_spec h
    refine rowOf_slAt hl hv hR hs h1 (by decide) fun l' b off hl' hc j x hx => ?_
    obtain ⟨q1, q2, q3, q4⟩ := h2 j x hx
    obtain ⟨u1, p1, p2⟩ := hl'.get q1
    obtain ⟨u2, p3, p4⟩ := hl'.get q2
    have e1 := p2.eq_simple rfl
    have e2 := p4.eq_simple rfl
    subst e1 e2
    exact ⟨hc _ _ p1, by rw [Nat.add_assoc]; exact hc _ _ p3, q3, q4⟩
  · cases h
theorem portsOf_at {v v' : Value} {ps : List (List (Int × Int))} (h : portsOf m v = some ps) (hv : VR φ v v') (hR : Rel φ M w) (hs : Sub m M) : PortsAt w v' ps := by
  unfold portsOf at h
  split at h
  · rename_i l ft hl
    obtain ⟨h1, h2⟩ := mapO_spec h
    refine rowOf_slAt hl hv hR hs (by rw [h1, Nat.mul_one]) (by decide) fun l' b off hl' hc j x hx => ?_
    obtain ⟨u, q1, q2⟩ := h2 j x hx
    obtain ⟨u', p1, p2⟩ := hl'.get q1
    exact ⟨u', by rw [Nat.mul_one]; exact hc _ _ p1, linksOf_at q2 p2 hR hs⟩
  · cases h

/-- A contract that leaves the old memory alone, as the evaluator takes it. -/
theorem sound_of_below {P : Program} {g : FuncId} {args : List Value} {v : Value} (hn : NoNum P) (hg : ∃ fn c, P.funcs[g]? = some fn ∧ fn.body = some c)
    (h : ∀ φ M w args', Rel φ M w → Sub m M → VRL φ args args' → Calls P g args'.toArray w fun e w' => ∃ v', e = .returned v' ∧ VR φ v v' ∧ Below w.heap.size w w') : SoundT P (.call g args m) (.call v (enterM m)) := by
  intro hw
  obtain ⟨fn, c, h1, h2⟩ := hg
  refine ⟨⟨Nat.le_refl _, fun i b hb => .inl ⟨b, hb⟩, fun i b _ _ hb => hb, hw⟩, fun φ M w args' hR hs hv _ => .inl ⟨callFunc_enter hn h1 h2 _ _, (h φ M w args' hR hs hv).mono ?_⟩⟩
  rintro e w' ⟨v', rfl, hvr, hb⟩
  exact ⟨v', rfl, φ, M, ⟨φ.le_refl, fun _ _ => rfl, hR.keep fun k hk => hb.block k hk, hs, fun _ _ _ => rfl, ⟨hb.os, hb.tape, hb.output, hb.size, fun k hk _ => hb.block k hk, fun _ _ h => h⟩⟩, hvr⟩

theorem noNum : NoNum Try.prog := by
  have h : Try.prog.funcs.all (fun fn => !(fn.name == "runtime.NumGoroutine")) = true := by kernel_rfl
  intro g fn hg _
  have := Array.all_eq_true_iff_forall_mem.1 h fn (Array.mem_of_getElem? hg)
  simpa using this
theorem mix : Try.prog.follows .mixedOrders = true := by kernel_rfl

theorem symm_ok (args : List Value) (m : Mem) (out : Out) (h : evSymm symB m args = some out) : SoundT Try.prog (.call 95 args m) out := by
  unfold evSymm at h
  split at h
  · rename_i v
    obtain ⟨ps, hps, h2⟩ := ob_some h
    obtain ⟨hle, h3⟩ := iteB_some h2
    cases h3
    refine sound_of_below noNum ⟨_, _, Try.func95, rfl⟩ fun φ M w args' hR hs hv => ?_
    obtain ⟨v', rfl, hvv⟩ := vrl_one hv
    refine (symmetric_any v' ps w (portsOf_at hps hvv hR hs) (Nat.le_of_ble_eq_true hle)).mono ?_
    rintro e w' ⟨rfl, hb⟩
    exact ⟨_, rfl, .simple rfl, hb⟩
  · cases h
end
end Ev
end Go.Proofs.Ytlfojfndkcmfnaa
namespace Go.Proofs.Ytlfojfndkcmfnaa
namespace Sh
open Go Ev
theorem fn_ok {g : FuncId} {fn : Func} {sc : SC} {rs : List SR} (hg : Try.prog.funcs[g]? = some fn) (hcmp : fn.body.bind (cmp Try.prog fn.ntmps) = some sc) (hrs : cmpR Try.prog fn.results.toList = some rs)
    {mu : List FuncId} {args : List SV} {Q : SV → Prop} (h : vc ⟨Ct Try.prog, Cm Try.prog, [], mu⟩ sc (retK rs Q) ⟨slots args 0, []⟩) : Ct Try.prog g args Q := by
  obtain ⟨c, h1, h2⟩ := bind_some hcmp
  exact fn_sound mix noNum hg h1 h2 hrs h
theorem fnM_ok {g : FuncId} {fn : Func} {sc : SC} {rs : List SR} (hg : Try.prog.funcs[g]? = some fn) (hcmp : fn.body.bind (cmp Try.prog fn.ntmps) = some sc) (hrs : cmpR Try.prog fn.results.toList = some rs)
    {pr : List Nm} {mu : List FuncId} {o : Own} {args : List SV} {Q : SV → Own → Prop} (h : vc ⟨Ct Try.prog, Cm Try.prog, pr, mu⟩ sc (retM rs pr Q) ⟨slots args 0, o⟩) : Cm Try.prog g pr o args Q := by
  obtain ⟨c, h1, h2⟩ := bind_some hcmp
  exact fnM_sound mix noNum hg h1 h2 hrs h
attribute [go_sem] vO_at vcO_nil vcO_cons vcO_guard vN_at vc_skip vc_seq vc_cond vc_block vc_loop vc_exit vc_ret vc_no vc_reg thenK_normal thenK_exit thenK_ret blockK_normal
attribute [go_sem] blockK_exit blockK_ret loopK_exit loopK_ret retK_normal retK_ret retM_normal retM_ret famSet Fam.at Prod.mk.injEq callO condO_b gb_x gb2_x resX oneOr slots
attribute [go_sem] guardO_t guardO_f guardO_tp runO opO callO xOp SS.get SS.pget SS.gets SS.lit look lookO SS.put SS.own cells_i cells_b cells_a cells_sl cells_rf cells_ex
attribute [go_sem] cells_tp cells_fn cells_pt cells_os cells_ag constS simple newOK loadX storeX part idxX natX rowOfS pureX xbin xun eqL splice fill OB.set ofV fits fitsM
attribute [go_sem] quietR allP SRec.no SRec.pure clash nmem List.isEmpty_nil List.isEmpty_cons List.drop List.take List.all List.any List.map List.length List.head? List.append
attribute [go_sem] List.nil_append List.append_nil List.cons_append List.all_cons List.all_nil List.drop_succ_cons List.drop_zero List.take_succ_cons List.take_zero List.drop_nil
attribute [go_sem] List.take_nil List.length_cons List.length_nil List.map_cons List.map_nil List.getElem?_cons_zero List.getElem?_cons_succ List.elem Int.toNat_natCast Nat.zero_add
attribute [go_sem] Nat.add_zero if_true if_false ite_true ite_false Option.isNone Option.isNone_none Option.map_some Option.map_none Bool.not_true Bool.not_false Bool.true_or
attribute [go_sem] Bool.or_true Bool.false_or Bool.or_false Bool.and_true Bool.true_and Bool.and_false Bool.false_and Bool.and_self Bool.or_self true_and and_true and_self
attribute [go_sem] true_implies false_implies implies_true forall_const Nat.lt_add_one Nat.one_pos Nat.zero_lt_one Nat.lt_irrefl Nat.le_refl decide_true decide_false Bool.false_eq_true
attribute [go_sem] Bool.true_eq_false forall_eq BEq.rfl beq_self_eq_true decide_eq_true_eq decide_eq_false_iff_not beq_iff_eq beq_eq_false_iff_ne bne_iff_ne bne_eq_false_iff_eq
attribute [go_sem] Bool.not_eq_true Bool.not_eq_false Bool.not_eq_true' Bool.not_eq_false' owned_i owned_b owned_a owned_sl owned_rf owned_bad owned_ag owned_tp owned_fn
attribute [go_sem] owned_ex scalar_ex view_ex vok_ex one1_ex owned_pt owned_os scalar_i scalar_b scalar_a scalar_sl scalar_rf scalar_bad scalar_ag scalar_tp scalar_fn scalar_pt
attribute [go_sem] scalar_os view_i view_b view_a view_sl view_rf view_bad view_ag view_tp view_fn view_pt view_os vok_i vok_b vok_a vok_sl vok_rf vok_bad vok_ag vok_tp vok_fn
attribute [go_sem] vok_pt vok_os one1_i one1_b one1_a one1_sl one1_rf one1_bad one1_ag one1_tp one1_fn one1_pt one1_os
end Sh
end Go.Proofs.Ytlfojfndkcmfnaa
