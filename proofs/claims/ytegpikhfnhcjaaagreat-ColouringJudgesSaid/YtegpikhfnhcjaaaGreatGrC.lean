/- Walks of graph.DifferentIDs, Valid. -/
import Derived.Test.YtegpikhfnhcjaaaGreatGraphB
import Derived.Test.YtegpikhfnhcjaaaGreatRefB
import Derived.Test.YtegpikhfnhcjaaaGreatOwn
import Derived.Test.YtegpikhfnhcjaaaGreatPlainD
namespace Go.Proofs.YtegpikhfnhcjaaaGreat
open Go.RowKit

theorem zero_seen : Tryz.zeroCells102 = Array.replicate 256 (.bool false) := by kernel_rfl

/-- Block g: which numbers have been seen. -/
def Seen (w : World) (g : Nat) (S : List Int) : Prop := ∃ cur, w.heap[g]? = some (.cells cur 102 (0, 0)) ∧ cur.size = 256 ∧ ∀ i : Nat, i < 256 → cur[i]? = some (.bool (decide ((i : Int) ∈ S)))

theorem Seen.cell {w : World} {g : Nat} {S : List Int} (h : Seen w g S) {i : Nat} (hi : i < 256) : w.cell? ⟨g, i, none⟩ = some (.bool (decide ((i : Int) ∈ S))) := by
  obtain ⟨cur, h1, h2, h3⟩ := h
  simp [World.cell?, h1, h3 i hi]
theorem Seen.frozen {w : World} {g : Nat} {S : List Int} (h : Seen w g S) (i : Nat) : w.frozen? ⟨g, i, none⟩ = false := by
  obtain ⟨cur, h1, h2, h3⟩ := h
  simp [World.frozen?, h1]
theorem Seen.set_ {w : World} {g : Nat} {S : List Int} (h : Seen w g S) {i : Nat} : Seen (w.setCell ⟨g, i, none⟩ (.bool true)) g (S ++ [(i : Int)]) := by
  obtain ⟨cur, h1, h2, h3⟩ := h
  refine ⟨cur.setIfInBounds i (.bool true), by simp [World.setCell, Array.getElem?_modify, h1], by simp [h2], fun j hj => ?_⟩
  rw [Array.getElem?_setIfInBounds]
  split
  · subst_vars
    rw [if_pos (by omega)]
    simp
  · rw [h3 j hj]
    congr 3
    simp
    omega

theorem Seen.start (w : World) : Seen (w.alloc (.cells Tryz.zeroCells102 102)) w.heap.size [] := by
  refine ⟨_, heap_alloc_new w _, by rw [zero_seen]; simp, fun i hi => ?_⟩
  rw [zero_seen]
  simp [hi]

def diffB (ids : List Int) : Bool := decide ((∀ x ∈ ids, 0 ≤ x ∧ x ≤ 255) ∧ ids.Nodup)
def DiffTo (ids : List Int) (k : Nat) : Prop := (∀ x ∈ ids.take k, 0 ≤ x ∧ x ≤ 255) ∧ (ids.take k).Nodup
theorem diff_snoc {ids : List Int} {k : Nat} (hk : k < ids.length) : DiffTo ids (k + 1) ↔ DiffTo ids k ∧ (0 ≤ ids[k] ∧ ids[k] ≤ 255) ∧ ids[k] ∉ ids.take k := by
  unfold DiffTo
  rw [take_snoc ids k hk, List.nodup_append]
  constructor
  · rintro ⟨h1, h2, _, h3⟩
    exact ⟨⟨fun x hx => h1 x (List.mem_append_left _ hx), h2⟩, h1 _ (List.mem_append_right _ (by simp)), fun hm => h3 _ hm _ (by simp) rfl⟩
  · rintro ⟨⟨h1, h2⟩, h3, h4⟩
    refine ⟨fun x hx => ?_, h2, by simp, fun a ha b hb e => ?_⟩
    · rcases List.mem_append.1 hx with hx | hx
      · exact h1 x hx
      · simp at hx; subst hx; exact h3
    · simp at hb; subst hb e; exact h4 ha
theorem diffB_false {ids : List Int} {k : Nat} (h : ¬ DiffTo ids k) : diffB ids = false := by
  unfold diffB
  rw [decide_eq_false_iff_not]
  exact fun hd => h ⟨fun x hx => hd.1 x (List.mem_of_mem_take hx), hd.2.sublist (List.take_sublist _ _)⟩
theorem diffB_true {ids : List Int} (h : DiffTo ids ids.length) : diffB ids = true := by
  unfold DiffTo at h
  rw [List.take_length] at h
  exact decide_eq_true h

set_option maxRecDepth 100000 in
set_option maxHeartbeats 1000000 in
theorem DifferentIDs_any (iv : Value) (ids : List Int) (w : World) (hi : IntsAt w iv ids) :
    Calls Tryz.prog 31 #[iv] w fun e w' => e = .returned (.bool (diffB ids)) ∧ Below w.heap.size w w' := by
  obtain ⟨A, c, rfl, hA1, hA2⟩ := slAt_form hi
  have Hi := Lib.hid hi
  clear hi
  go_enter Tryz.func31, Tryz.ntmps31
  go_wp2
  go_loopg [8] ids.length (fun q t wr => ∃ k : Nat, q + k = ids.length ∧ t = .int .i64 k ∧ Hid (Below w.heap.size w wr) ∧ Hid (Seen wr w.heap.size (ids.take k)) ∧ Hid (DiffTo ids k))
  case atStart => exact ⟨0, by omega, rfl, Lib.hid ((Below.refl _ _).alloc (Nat.le_refl _) _), Lib.hid (Seen.start w), Lib.hid ⟨by simp, by simp⟩⟩
  case round =>
    obtain ⟨k, hq, rfl, hbel, hseen, hok⟩ := hrel
    by_cases hlt : k < ids.length
    · obtain ⟨b, off, rfl, hb, hcid, hr⟩ := intsAt_at (Hi.out.below Stable.int hbel.out) hlt
      obtain ⟨x, hx⟩ : ∃ x, ids[k] = x := ⟨_, rfl⟩
      have Hsn := Lib.hid (diff_snoc hlt)
      rw [hx] at hcid hr Hsn
      obtain ⟨hr1, hr2⟩ := hr
      have Hbad := Lib.hid (fun h => diffB_false (ids := ids) (k := k + 1) h)
      have Hts := Lib.hid (take_snoc ids k hlt)
      rw [hx] at Hts
      clear hx
      by_cases c1 : 0 ≤ x ∧ x ≤ 255
      · obtain ⟨c1a, c1b⟩ := c1
        obtain ⟨n, rfl⟩ := Int.eq_ofNat_of_zero_le c1a
        have hcs := hseen.out.cell (i := n) (by omega)
        have hfs := hseen.out.frozen n
        by_cases c2 : (n : Int) ∈ ids.take k
        · rw [decide_eq_true c2] at hcs
          have Hf := Lib.hid (Hbad.out (fun h => (Hsn.out.1 h).2.2 c2))
          clear c2
          go_wp2
          go_ret
          exact ⟨ret_bool Hf.out.symm, hbel.out⟩
        · rw [decide_eq_false c2] at hcs
          have Hn := Lib.hid (Hsn.out.2 ⟨hok.out, ⟨by omega, by omega⟩, c2⟩)
          clear c2
          go_wp2
          go_roundg (gk - 1)
          case measure => omega
          case rel =>
            refine ⟨k + 1, by omega, by go_num, Lib.hid (hbel.out.setCell (Nat.le_refl _) _), Lib.hid ?_, Hn⟩
            rw [Hts.out]
            exact hseen.out.set_
      · have Hf := Lib.hid (Hbad.out (fun h => c1 (Hsn.out.1 h).2.1))
        by_cases c3 : x < 0
        · clear c1
          go_wp2
          go_ret
          exact ⟨ret_bool Hf.out.symm, hbel.out⟩
        · have c4 : 255 < x := by omega
          clear c1
          go_wp2
          go_ret
          exact ⟨ret_bool Hf.out.symm, hbel.out⟩
    · obtain rfl : k = ids.length := by omega
      have Ht := Lib.hid (diffB_true hok.out)
      go_wp2
      go_ret
      exact ⟨ret_bool Ht.out.symm, hbel.out⟩

theorem validB_eq (g : Gr) (h1 : 1 ≤ g.ids.length) (h2 : g.ids.length ≤ 24) (h3 : g.ports.length = g.ids.length) : validB g = (diffB g.ids && symB g.ports) := by
  unfold validB diffB symB
  rw [← Bool.decide_and]
  congr 1
  apply propext
  unfold GoodG SymOk
  constructor
  · rintro ⟨_, _, _, h4, h5, h6, h7⟩
    exact ⟨⟨h4, h5⟩, h6, h7⟩
  · rintro ⟨⟨h4, h5⟩, h6, h7⟩
    exact ⟨by omega, by omega, by omega, h4, h5, h6, h7⟩

set_option maxHeartbeats 1000000 in
theorem Valid_any (gv : Value) (g : Gr) (w : World) (hg : GrAt w gv g) :
    Calls Tryz.prog 18 #[gv] w fun e w' => e = .returned (.bool (validB g)) ∧ Below w.heap.size w w' := by
  obtain ⟨i, p, rfl, hi, hp⟩ := hg
  obtain ⟨A, c, rfl, hA1, hA2⟩ := slAt_form hi
  obtain ⟨A2, c2, rfl, hB1, hB2⟩ := slAt_form hp
  have Hi := Lib.hid hi
  have Hp := Lib.hid hp
  clear hi hp
  by_cases n1 : 1 ≤ g.ids.length
  · by_cases n2 : g.ids.length ≤ 24
    · by_cases n3 : g.ports.length = g.ids.length
      · have n3' : ((g.ports.length : Int) != (g.ids.length : Int)) = false := by simp [n3]
        have He := Lib.hid (validB_eq g n1 n2 n3)
        have n3a : g.ports.length ≤ 24 := by omega
        clear n3
        go_enter Tryz.func18, Tryz.ntmps18
        go_wp2_with fail
        refine (DifferentIDs_any _ g.ids _ (Hi.out.below Stable.int ((Below.refl _ _).alloc (Nat.le_refl _) _))).mono ?_
        rintro e w1 ⟨rfl, hb1⟩
        have Hb1 := Lib.hid (belowA hb1)
        obtain ⟨q0, q1⟩ := newA2 hb1
        clear hb1
        cases hd : diffB g.ids with
        | false =>
          have Hv := Lib.hid (show validB g = false by rw [He.out, hd]; rfl)
          go_wp2_with fail
          go_ret
          exact ⟨ret_bool Hv.out.symm, Hb1.out⟩
        | true =>
          have Hv := Lib.hid (show validB g = symB g.ports by rw [He.out, hd]; rfl)
          go_wp2_with fail
          refine (symmetric_any _ g.ports _ (Hp.out.below (Stable.sl Stable.link) Hb1.out) (by omega)).mono ?_
          rintro e w2 ⟨rfl, hb2⟩
          go_wp2_with fail
          go_ret
          exact ⟨ret_bool Hv.out.symm, Hb1.out.trans (hb2.mono Hb1.out.size)⟩
      · have n3' : ((g.ports.length : Int) != (g.ids.length : Int)) = true := by simp; omega
        have Hf := Lib.hid (validB_false_1 (g := g) (fun h => n3 h.2.2.symm))
        clear n3
        go_enter Tryz.func18, Tryz.ntmps18
        go_wp2
        go_ret
        exact ⟨ret_bool Hf.out.symm, (Below.refl _ _).alloc (Nat.le_refl _) _⟩
    · have Hf := Lib.hid (validB_false_1 (g := g) (fun h => n2 (by omega)))
      go_enter Tryz.func18, Tryz.ntmps18
      go_wp2
      go_ret
      exact ⟨ret_bool Hf.out.symm, (Below.refl _ _).alloc (Nat.le_refl _) _⟩
  · have Hf := Lib.hid (validB_false_1 (g := g) (fun h => n1 (by omega)))
    go_enter Tryz.func18, Tryz.ntmps18
    go_wp2
    go_ret
    exact ⟨ret_bool Hf.out.symm, (Below.refl _ _).alloc (Nat.le_refl _) _⟩
end Go.Proofs.YtegpikhfnhcjaaaGreat
