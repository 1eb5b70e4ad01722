/- Maps keyed by [2]int that are only ever given new keys: exactly known. -/
import Derived.Test.YtegpikhfnhcjaaaGreatOwn
import Derived.Maps.Own
import Derived.Maps.OwnOps
import Derived.Maps.RangeWalk
namespace Go.Proofs.YtegpikhfnhcjaaaGreat
open Go.RowKit

theorem isAgg_int (w : World) : (isAgg 3).run Tryz.prog w = .ok false w := by kernel_rfl
theorem sizeOf_int (w : World) : (sizeOf 3).run Tryz.prog w = .ok 1 w := by kernel_rfl
theorem part_int (w : World) (cs : Array Value) (k : Nat) (v : Value) (h : cs[k]? = some v) : (part 3 cs k).run Tryz.prog w = .ok v w := by
  simp [part, h]
theorem equalIn_int (d : Nat) (a b : Int) (w : World) : (Op.equalIn (d + 1) 3 (.int .i64 a) (.int .i64 b)).run Tryz.prog w = .ok (a == b) w := by
  simp [Op.equalIn, run_underlying Tryz.underlying3]
theorem equalIn_pair (n : Nat) (a b c d : Int) (w : World) : (Op.equalIn (n + 2) 104 (.agg #[.int .i64 a, .int .i64 b]) (.agg #[.int .i64 c, .int .i64 d])).run Tryz.prog w = .ok (a == c && b == d) w := by
  have h := equalIn_int n
  have p0 : ∀ x y w, (part 3 #[x, y] 0).run Tryz.prog w = .ok x w := fun x y w => part_int w _ 0 x rfl
  have p1 : ∀ x y w, (part 3 #[x, y] 1).run Tryz.prog w = .ok y w := fun x y w => part_int w _ 1 y rfl
  unfold Op.equalIn
  simp [run_underlying Tryz.underlying104, Std.Legacy.Range.forIn_eq_forIn_range', Std.Legacy.Range.size, List.range', p0, p1, h]
  by_cases h1 : a = c <;> by_cases h2 : b = d <;> simp [h1, h2]
theorem equal_pair (a b c d : Int) (w : World) : (Op.equal 104 (.agg #[.int .i64 a, .int .i64 b]) (.agg #[.int .i64 c, .int .i64 d])).run Tryz.prog w = .ok (a == c && b == d) w :=
  equalIn_pair 9998 a b c d w

abbrev Tri := Int × Int × Int
def ent (i : Nat) (p : Tri) : MapEntry := { key := .agg #[.int .i64 p.1, .int .i64 p.2.1], val := .int .i64 p.2.2, born := i }
def ents (L : List Tri) : Array MapEntry := (L.mapIdx ent).toArray
def hit (x y : Int) (p : Tri) : Bool := x == p.1 && y == p.2.1
def PMap (w : World) (b : Nat) (L : List Tri) : Prop := w.heap[b]? = some (.map (ents L) L.length)

theorem run_findAsking (x y : Int) (w : World) : ∀ (L : List Tri) (f : Nat → Tri → MapEntry) (_ : ∀ i p, (f i p).key = .agg #[.int .i64 p.1, .int .i64 p.2.1] ∧ (f i p).val = .int .i64 p.2.2) (i : Nat),
    ∃ r, (Instr.findAsking 104 (.agg #[.int .i64 x, .int .i64 y]) (L.mapIdx f) i).run Tryz.prog w = .ok r w ∧ (∀ p, L.find? (hit x y) = some p → ∃ j, r = some (j, .int .i64 p.2.2)) ∧ (L.find? (hit x y) = none → r = none)
  | [], f, _, i => ⟨none, by simp [Instr.findAsking], by simp, fun _ => rfl⟩
  | p :: L, f, hf, i => by
    obtain ⟨r, h1, h2, h3⟩ := run_findAsking x y w L (fun i => f (i + 1)) (fun i p => hf (i + 1) p) (i + 1)
    rw [List.mapIdx_cons]
    simp only [Instr.findAsking, Sem.run_bind, (hf 0 p).1, (hf 0 p).2, equal_pair, Result.andThen_ok]
    by_cases hh : hit x y p = true
    · refine ⟨some (i, .int .i64 p.2.2), ?_, ?_, ?_⟩
      · have : (x == p.1 && y == p.2.1) = true := hh
        rw [this]
        simp
      · intro q hq
        simp [hh] at hq
        subst hq
        exact ⟨i, rfl⟩
      · intro hq
        simp [hh] at hq
    · have hf' : hit x y p = false := by simpa using hh
      refine ⟨r, ?_, ?_, ?_⟩
      · have : (x == p.1 && y == p.2.1) = false := hf'
        rw [this]
        simpa using h1
      · intro q hq
        simp only [List.find?_cons, hf'] at hq
        exact h2 q hq
      · intro hq
        simp only [List.find?_cons, hf'] at hq
        exact h3 hq

theorem run_findKey (x y : Int) (w : World) (L : List Tri) :
    ∃ r, (Instr.findKey 104 (.agg #[.int .i64 x, .int .i64 y]) (ents L).toList).run Tryz.prog w = .ok r w ∧ (∀ p, L.find? (hit x y) = some p → ∃ j, r = some (j, .int .i64 p.2.2)) ∧ (L.find? (hit x y) = none → r = none) := by
  obtain ⟨r, h1, h2⟩ := run_findAsking x y w L ent (fun i p => ⟨rfl, rfl⟩) 0
  refine ⟨r, ?_, h2⟩
  unfold ents
  cases L with
  | nil =>
    simp [Instr.findAsking] at h1
    subst h1
    simp [Instr.findKey, run_underlying Tryz.underlying104, Instr.findNow]
  | cons p L =>
    rw [List.mapIdx_cons] at h1 ⊢
    simp only [Instr.findKey, Sem.run_bind, run_underlying Tryz.underlying104, Result.andThen_ok, Instr.findNow, ent, Instr.sameNow]
    exact h1

theorem checkKey_int (e : Bool) (n : Nat) (a : Int) (w : World) : (Instr.checkKey e (n + 1) 3 (.int .i64 a)).run Tryz.prog w = .ok () w := by
  unfold Instr.checkKey
  simp [run_underlying Tryz.underlying3]
theorem run_checkKey (e : Bool) (x y : Int) (w : World) : (Instr.checkKey e 10000 104 (.agg #[.int .i64 x, .int .i64 y])).run Tryz.prog w = .ok () w := by
  have h : ∀ a w, (Instr.checkKey e 9999 3 (.int .i64 a)).run Tryz.prog w = .ok () w := fun a w => checkKey_int e 9998 a w
  have p0 : ∀ x y w, (part 3 #[x, y] 0).run Tryz.prog w = .ok x w := fun x y w => part_int w _ 0 x rfl
  have p1 : ∀ x y w, (part 3 #[x, y] 1).run Tryz.prog w = .ok y w := fun x y w => part_int w _ 1 y rfl
  unfold Instr.checkKey
  simp [run_underlying Tryz.underlying104, Std.Legacy.Range.forIn_eq_forIn_range', Std.Legacy.Range.size, List.range', p0, p1, h]

theorem zero_int (w : World) : (zeroValue 3).run Tryz.prog w = .ok (.int .i64 0) w := by kernel_rfl

/-- What the map holds at a pair of keys, 0 if nothing. -/
def valAt (L : List Tri) (x y : Int) : Int := ((L.find? (hit x y)).map (·.2.2)).getD 0
def hasPair (L : List Tri) (x y : Int) : Bool := (L.find? (hit x y)).isSome

theorem run_lookup2 {w : World} {b : Nat} {L : List Tri} (h : PMap w b L) (x y : Int) (c : Bool) :
    (Instr.lookup 103 (.map (some b)) (.agg #[.int .i64 x, .int .i64 y]) c).run Tryz.prog w = .ok (if c then .tuple #[.int .i64 (valAt L x y), .bool (hasPair L x y)] else .int .i64 (valAt L x y)) w := by
  obtain ⟨r, h1, h2, h3⟩ := run_findKey x y w L
  have hb : w.heap[b]? = _ := h
  simp only [Instr.lookup, Sem.run_bind, run_underlying Tryz.underlying103, Result.andThen_ok, getObj, Sem.run, hb, run_checkKey, h1, Sem.run_pure]
  unfold valAt hasPair
  cases hf : L.find? (hit x y) with
  | none =>
    rw [h3 hf]
    cases c <;> simp
  | some p =>
    obtain ⟨j, rfl⟩ := h2 p hf
    cases c <;> simp

theorem ents_snoc (L : List Tri) (p : Tri) : ents (L ++ [p]) = (ents L).push (ent L.length p) := by
  unfold ents
  rw [List.mapIdx_append]
  simp
theorem run_mapUpdate2 {w : World} {b : Nat} {L : List Tri} (h : PMap w b L) (x y z : Int) (hn : hasPair L x y = false) :
    (Instr.mapUpdate 103 (.map (some b)) (.agg #[.int .i64 x, .int .i64 y]) (.int .i64 z)).run Tryz.prog w = .ok () { w with heap := w.heap.setIfInBounds b (.map (ents (L ++ [(x, y, z)])) (L.length + 1)) } := by
  obtain ⟨r, h1, _, h3⟩ := run_findKey x y w L
  have hb : w.heap[b]? = _ := h
  have hf : L.find? (hit x y) = none := by
    unfold hasPair at hn
    simpa using hn
  rw [h3 hf] at h1
  simp only [Instr.mapUpdate, Sem.run_bind, run_underlying Tryz.underlying103, Result.andThen_ok, getObj, Sem.run, hb, run_checkKey, h1, setObj, ents_snoc, ent]

/-- The world behind a store of a map's block. -/
def World.setMap (w : World) (b : Nat) (L : List Tri) : World := { w with heap := w.heap.setIfInBounds b (.map (ents L) L.length) }
theorem PMap.lt {w : World} {b : Nat} {L : List Tri} (h : PMap w b L) : b < w.heap.size := (Array.getElem?_eq_some_iff.1 h).1
theorem PMap.alloc {w : World} {b : Nat} {L : List Tri} (h : PMap w b L) (o : Obj) : PMap (w.alloc o) b L := (Below.heap_alloc w o b h.lt).trans h
theorem PMap.below {w w' : World} {B b : Nat} {L : List Tri} (h : PMap w b L) (hb : Below B w w') (hB : b < B) : PMap w' b L := (hb.block b hB).trans h
theorem PMap.drewN {w : World} {b : Nat} {L : List Tri} (h : PMap w b L) (n : Nat) : PMap (w.drewN n) b L := h
theorem PMap.set {w : World} {b : Nat} {L : List Tri} (h : PMap w b L) (L' : List Tri) : PMap (World.setMap w b L') b L' := by
  unfold PMap World.setMap
  rw [Array.getElem?_setIfInBounds, if_pos rfl, if_pos h.lt]
theorem Below.setMap {B : Nat} {a w : World} (h : Below B a w) {b : Nat} (hb : B ≤ b) (L : List Tri) : Below B a (World.setMap w b L) :=
  h.trans ⟨rfl, rfl, rfl, by simp [World.setMap], fun k hk => by
    show (w.heap.setIfInBounds b _)[k]? = _
    rw [Array.getElem?_setIfInBounds, if_neg (by omega)]⟩

/-- Any operation whose run is known. -/
theorem wpList_exec {P : Program} {w w' : World} {ops : Array Oper} {rest : List Oper} {o : Oper} {a : Act} {Q : Exit → Act → World → Prop} (hgd : o.guard = none) (v : Value)
    (hrun : (execOp a.eval o).run P w = .ok (.value v) w') (h : wpList P ops Q rest (a.put o.dst v) w') : wpList P ops Q (o :: rest) a w :=
  wpList_plain hgd fun K hK => by unfold Oper.wp; rw [hrun]; exact hK _ _ h
theorem wpList_lookup2 {w : World} {ops : Array Oper} {rest : List Oper} {o : Oper} {a : Act} {Q : Exit → Act → World → Prop} (hgd : o.guard = none) (m k : Operand) (c : Bool) (ho : o.op = .lookup 103 m k c)
    (b : Nat) (x y : Int) (hm : a.eval m = .map (some b)) (hk : a.eval k = .agg #[.int .i64 x, .int .i64 y]) (L : List Tri) (hL : PMap w b L)
    (h : wpList Tryz.prog ops Q rest (a.put o.dst (if c then .tuple #[.int .i64 (valAt L x y), .bool (hasPair L x y)] else .int .i64 (valAt L x y))) w) : wpList Tryz.prog ops Q (o :: rest) a w := by
  refine wpList_exec hgd _ ?_ h
  unfold execOp
  simp only [ho, hm, hk, Sem.run_bind, run_lookup2 hL, Result.andThen_ok, Sem.run_pure]
theorem wpList_mapUpdate2 {w : World} {ops : Array Oper} {rest : List Oper} {o : Oper} {a : Act} {Q : Exit → Act → World → Prop} (hgd : o.guard = none) (m k v : Operand) (ho : o.op = .mapUpdate 103 m k v) (hd : o.dst = none)
    (b : Nat) (x y z : Int) (hm : a.eval m = .map (some b)) (hk : a.eval k = .agg #[.int .i64 x, .int .i64 y]) (hv : a.eval v = .int .i64 z) (L : List Tri) (hL : PMap w b L) (hn : hasPair L x y = false)
    (h : wpList Tryz.prog ops Q rest a (World.setMap w b (L ++ [(x, y, z)]))) : wpList Tryz.prog ops Q (o :: rest) a w := by
  refine wpList_plain hgd fun K hK => ?_
  unfold Oper.wp execOp
  simp only [ho, hm, hk, hv, Sem.run_bind, run_mapUpdate2 hL x y z hn, Result.andThen_ok, Sem.run_pure]
  have := hK a _ h
  simpa [Oper.upon, Act.put, hd, World.setMap] using this
end Go.Proofs.YtegpikhfnhcjaaaGreat
