/- Plain words on graphs: no program in sight. -/
import Derived.Test.YtegpikhfnhcjaaaGreatMem
namespace Go.Proofs.YtegpikhfnhcjaaaGreat

def portTo (ls : List (Int × Int)) (u : Int) : Int := match ls.findIdx? (fun l => l.1 == u) with | some i => i | none => -1

def linkOk (v n : Int) (l : Int × Int) : Prop := 0 ≤ l.1 ∧ l.1 ≤ n - 1 ∧ l.1 ≠ v ∧ 1 ≤ l.2 ∧ l.2 ≤ 15
instance (v n : Int) (l : Int × Int) : Decidable (linkOk v n l) := by unfold linkOk; infer_instance

def linksOk (ls : List (Int × Int)) (v n : Int) : Prop := (∀ l ∈ ls, linkOk v n l) ∧ (ls.map (·.1)).Nodup
instance (ls : List (Int × Int)) (v n : Int) : Decidable (linksOk ls v n) := by unfold linksOk; infer_instance
def linksB (ls : List (Int × Int)) (v n : Int) : Bool := decide (linksOk ls v n)

theorem take_snoc {α : Type} (l : List α) (k : Nat) (h : k < l.length) : l.take (k + 1) = l.take k ++ [l[k]] := by
  rw [List.take_succ_eq_append_getElem h]

theorem linksOk_snoc (ls : List (Int × Int)) (v n : Int) (k : Nat) (h : k < ls.length) :
    linksOk (ls.take (k + 1)) v n ↔ linksOk (ls.take k) v n ∧ linkOk v n ls[k] ∧ ∀ j (hj : j < k), (ls[j]).1 ≠ (ls[k]).1 := by
  unfold linksOk
  rw [take_snoc ls k h]
  simp only [List.mem_append, List.mem_singleton, List.map_append, List.map_cons, List.map_nil, List.nodup_append]
  constructor
  · rintro ⟨h1, h2, _, h3⟩
    refine ⟨⟨fun l hl => h1 l (.inl hl), h2⟩, h1 _ (.inr rfl), fun j hj => ?_⟩
    refine h3 _ ?_ _ (by simp)
    exact List.mem_map.2 ⟨ls[j], List.mem_take_iff_getElem.2 ⟨j, by omega, rfl⟩, rfl⟩
  · rintro ⟨⟨h1, h2⟩, h3, h4⟩
    refine ⟨?_, h2, by simp, ?_⟩
    · rintro l (hl | rfl)
      · exact h1 l hl
      · exact h3
    · intro a ha b hb
      obtain ⟨l, hl, rfl⟩ := List.mem_map.1 ha
      obtain ⟨j, hj, rfl⟩ := List.mem_take_iff_getElem.1 hl
      subst hb
      exact h4 j (by omega)

theorem linksOk_take (ls : List (Int × Int)) (v n : Int) (k : Nat) (h : linksOk ls v n) : linksOk (ls.take k) v n := by
  refine ⟨fun l hl => h.1 l (List.mem_of_mem_take hl), ?_⟩
  rw [List.map_take]
  exact h.2.sublist (List.take_sublist _ _)

theorem linksB_false_of (ls : List (Int × Int)) (v n : Int) (k : Nat) (h : ¬ linksOk (ls.take k) v n) : linksB ls v n = false := by
  unfold linksB
  rw [decide_eq_false_iff_not]
  exact fun h' => h (linksOk_take ls v n k h')

theorem linksB_true_of (ls : List (Int × Int)) (v n : Int) (h : linksOk (ls.take ls.length) v n) : linksB ls v n = true := by
  unfold linksB
  rw [List.take_length] at h
  exact decide_eq_true h

theorem portTo_hit (ls : List (Int × Int)) (u : Int) (k : Nat) (hk : k < ls.length) (h : ls[k].1 = u) (hn : (ls.take k).findIdx? (fun l => l.1 == u) = none) : portTo ls u = k := by
  unfold portTo
  have : ls.findIdx? (fun l => l.1 == u) = some k := by
    rw [List.findIdx?_eq_some_iff_getElem]
    refine ⟨hk, by simp [h], fun j hj => ?_⟩
    rw [List.findIdx?_eq_none_iff] at hn
    have := hn ls[j] (List.mem_take_iff_getElem.2 ⟨j, by omega, rfl⟩)
    simp [this]
  rw [this]

theorem portTo_none (ls : List (Int × Int)) (u : Int) (hn : (ls.take ls.length).findIdx? (fun l => l.1 == u) = none) : portTo ls u = -1 := by
  rw [List.take_length] at hn
  unfold portTo
  rw [hn]

theorem findIdx_snoc (ls : List (Int × Int)) (u : Int) (k : Nat) (hk : k < ls.length) (h : ¬ ls[k].1 = u) (hn : (ls.take k).findIdx? (fun l => l.1 == u) = none) : (ls.take (k + 1)).findIdx? (fun l => l.1 == u) = none := by
  rw [take_snoc ls k hk, List.findIdx?_append, hn]
  simp [h]
end Go.Proofs.YtegpikhfnhcjaaaGreat
