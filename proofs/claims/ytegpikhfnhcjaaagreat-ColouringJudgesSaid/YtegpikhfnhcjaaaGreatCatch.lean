/- Walk of expr.recovered at nil, of Catch's deferred closure, of Catch. -/
import Derived.Test.YtegpikhfnhcjaaaGreatHead
import Derived.Defers
import Derived.Recover
import Derived.Laws.Pointers
namespace Go.Proofs.YtegpikhfnhcjaaaGreat
open Go.RowKit

theorem recovered_nil (w : World) : Calls Tryz.prog 62 #[.nilIface] w fun e w' => e = .returned (.tuple #[.agg #[.int .i64 0, .int .i64 0], .bool false]) ∧ Below w.heap.size w w' := by
  go_enter Tryz.func62, Tryz.ntmps62
  go_wp2
  refine ⟨rfl, .tuple #[.agg #[.int .i64 0, .int .i64 0], .bool false], ?_, rfl, ?_⟩
  · simp [results, Tryz.results62, go_sem]
  · exact (Below.refl _ _).alloc (Nat.le_refl _) _

theorem catch_idle (p q : Addr) (w : World) :
    CallsD Tryz.prog 61 #[.pointer (some p), .pointer (some q)] .returning w fun e u' w' => e = .returned (.tuple #[]) ∧ u' = .returning ∧ Below w.heap.size w w' := by
  refine callsD_of_wpS Tryz.func61 rfl fun c₀ cs hu => ?_
  apply wpS_seq
  apply wpS_region
  simp [wpOpsS, go_sem, recoverD, hu, Tryz.ntmps61, Exit.thenS]
  refine (recovered_nil w).mono ?_
  rintro e w1 ⟨rfl, hb⟩
  simp [go_sem]
  apply wpS_seq
  apply wpS_region
  simp [wpOpsS, go_sem, Exit.thenS]
  refine wpS_cond (t := false) (by simp [Act.eval, Array.replicate]) ?_
  simp only [Bool.false_eq_true, if_false]
  refine wpS_of_wp (wp_skip ?_)
  refine ⟨rfl, .returning, by cases c₀; simp_all, .tuple #[], by simp [results, Tryz.results61], rfl, rfl, hb.alloc hb.size _⟩

def catchW (w : World) : World := (w.alloc (.cells #[.int .i64 0] 3)).alloc (.cells #[.int .i64 0] 44)
theorem catchW_0 (w : World) : (catchW w).heap[w.heap.size]? = some (.cells #[.int .i64 0] 3) := by
  unfold catchW
  rw [Below.heap_alloc _ _ _ (by simp [go_sem])]
  exact heap_alloc_new w _
theorem catchW_1 (w : World) : (catchW w).heap[w.heap.size + 1]? = some (.cells #[.int .i64 0] 44) := by
  have := heap_alloc_new (w.alloc (.cells #[.int .i64 0] 3)) (.cells #[.int .i64 0] 44)
  rw [show (w.alloc (.cells #[.int .i64 0] 3)).heap.size = w.heap.size + 1 by simp [go_sem]] at this
  exact this
theorem catch_calls (h : FuncId) (first cap : Array Value) (w : World) (Q : World → Prop)
    (hq : ∀ w', Q w' → w'.heap[w.heap.size]? = (catchW w).heap[w.heap.size]? ∧ w'.heap[w.heap.size + 1]? = (catchW w).heap[w.heap.size + 1]?)
    (hc : ((callFunc h (first ++ cap)).run Tryz.prog (catchW w) = .ok (.enter h (first ++ cap)) (catchW w) ∧ Calls Tryz.prog h (first ++ cap) (catchW w) fun e w' => (∃ v, e = .returned v) ∧ Q w') ∨
      (∃ v w', (callFunc h (first ++ cap)).run Tryz.prog (catchW w) = .ok (.value v) w' ∧ Q w')) :
    Calls Tryz.prog 45 #[.func (.func h) first cap] w fun e w'' => e = .returned (.tuple #[.int .i64 0, .int .i64 0]) ∧
      ∃ w', Q w' ∧ Below w'.heap.size ((w'.setCell ⟨w.heap.size, 0, none⟩ (.int .i64 0)).setCell ⟨w.heap.size + 1, 0, none⟩ (.int .i64 0)) w'' := by
  have hmf : ∀ (fn : Fn) (first cap : Array Value) (w : World), (Instr.makeFunc fn first cap).run Tryz.prog w = .ok (.func fn first cap) w := fun _ _ _ _ => rfl
  have Hq := Lib.hid hq; clear hq
  have Hc := Lib.hid hc; clear hc
  go_enter_defers Tryz.func45, Tryz.ntmps45
  generalize hC : (Code.seq (Code.region 2 _ false) _) = C
  generalize hB : (bodyPostD _ _ _) = B
  go_wp2
  subst hC hB
  refine wp_seq (wp_region_list ?_)
  refine wpList_plain rfl fun K hK => ?_
  simp [Oper.wp, go_sem]
  apply hK
  refine wpList_plain rfl fun K2 hK2 => ?_
  simp [Oper.wp, go_sem]
  have key : ∀ v w', Q w' → K2 { tmps := #[.func (.func h) first cap, undef, .pointer (some ⟨w.heap.size, 0, none⟩), .pointer (some ⟨w.heap.size + 1, 0, none⟩), .func (.func 61) #[] #[.pointer (some ⟨w.heap.size, 0, none⟩), .pointer (some ⟨w.heap.size + 1, 0, none⟩)], .func (.func h) first cap, v], defers := [{ target := .fn (.func 61) #[.pointer (some ⟨w.heap.size, 0, none⟩), .pointer (some ⟨w.heap.size + 1, 0, none⟩)], args := #[] }] } w' := by
    intro v w' hQ
    apply hK2
    refine wpList_nil ?_
    obtain ⟨h1, h2⟩ := Hq.out w' hQ
    have h1 : w'.heap[w.heap.size]? = some (.cells #[.int .i64 0] 3) := h1.trans (catchW_0 w)
    have h2 : w'.heap[w.heap.size + 1]? = some (.cells #[.int .i64 0] 44) := h2.trans (catchW_1 w)
    have c1 : w'.cell? ⟨w.heap.size, 0, none⟩ = some (.int .i64 0) := by simp [World.cell?, h1]
    have c2 : w'.cell? ⟨w.heap.size + 1, 0, none⟩ = some (.int .i64 0) := by simp [World.cell?, h2]
    have z1 : w'.frozen? ⟨w.heap.size, 0, none⟩ = false := by simp [World.frozen?, h1]
    have z2 : w'.frozen? ⟨w.heap.size + 1, 0, none⟩ = false := by simp [World.frozen?, h2]
    have l1 := (Array.getElem?_eq_some_iff.1 h1).1
    have l2 := (Array.getElem?_eq_some_iff.1 h2).1
    have HQ := Lib.hid hQ; clear hQ
    clear h1 h2
    simp only [Exit.then]
    go_wp2
    refine leaves_cons (f := 61) (args := #[.pointer (some ⟨w.heap.size, 0, none⟩), .pointer (some ⟨w.heap.size + 1, 0, none⟩)]) (by simp) (by simp [go_sem]) ?_
    refine (catch_idle ⟨w.heap.size, 0, none⟩ ⟨w.heap.size + 1, 0, none⟩ _).mono ?_
    rintro e u' w'' ⟨rfl, rfl, hb⟩
    have hsz : ((w'.setCell ⟨w.heap.size, 0, none⟩ (.int .i64 0)).setCell ⟨w.heap.size + 1, 0, none⟩ (.int .i64 0)).heap.size = w'.heap.size := by simp [go_sem]
    rw [hsz] at hb
    have d1 : w''.cell? ⟨w.heap.size, 0, none⟩ = some (.int .i64 0) := by
      rw [hb.cell l1]; simp [go_sem, c1]
    have d2 : w''.cell? ⟨w.heap.size + 1, 0, none⟩ = some (.int .i64 0) := by
      rw [hb.cell l2]; simp [go_sem, c2]
    simp [Leaves, settle, results, Tryz.results45, go_sem, d1, d2]
    exact ⟨w', HQ.out, hb⟩
  have hcc := RowKit.Hid.out Hc
  clear Hc hmf Hq hK
  revert key
  generalize K2 = K
  intro key
  rw [show ((w.alloc (Obj.cells #[Value.int IntKind.i64 0] 3)).alloc (Obj.cells #[Value.int IntKind.i64 0] 44)) = catchW w from rfl]
  generalize Sem.run Tryz.prog (callFunc h (first ++ cap)) (catchW w) = r at hcc ⊢
  rcases hcc with ⟨rfl, hc⟩ | ⟨v, w', rfl, hc⟩
  · rw [Oper.upon_enter]
    refine hc.mono ?_
    rintro e w' ⟨⟨v, rfl⟩, hQ⟩
    exact key v w' hQ
  · exact key v w' hc
end Go.Proofs.YtegpikhfnhcjaaaGreat
