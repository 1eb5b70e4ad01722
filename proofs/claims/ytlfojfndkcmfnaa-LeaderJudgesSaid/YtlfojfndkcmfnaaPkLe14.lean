/- Lemmas, joined: PlainF PlainG RefA RefB Small PlainH LdP. -/
import Derived.Test.YtlfojfndkcmfnaaPkLe13
import Derived.Test.YtlfojfndkcmfnaaPkLe11
set_option linter.unusedSimpArgs false
set_option linter.unusedVariables false
namespace Go.Proofs.Ytlfojfndkcmfnaa

def connB (g : Gr) : Bool := validB g && (distL g 0).all (fun x => decide (0 ≤ x))
def greatestP (D : List Int) : Int := D.foldl max (-1)
def distsP (g : Gr) (v : Int) : List Int := if validB g = true ∧ 0 ≤ v ∧ v < g.ports.length then distL g v.toNat else []
def eccP (g : Gr) (v : Int) : Int := if connB g = true ∧ 0 ≤ v ∧ v < g.ports.length then greatestP (distL g v.toNat) else -1
/-- The reference's way: -1 at the first node that is not reached. -/
def refGreatest (D : List Int) : Int := if D.all (fun x => decide (0 ≤ x)) = true then greatestP D else -1

theorem foldl_max_ge (D : List Int) : ∀ m : Int, m ≤ D.foldl max m := by
  induction D with
  | nil => intro m; exact Int.le_refl _
  | cons x D ih => intro m; exact Int.le_trans (Int.le_max_left m x) (ih _)
theorem greatestP_snoc (D : List Int) (k : Nat) (hk : k < D.length) : greatestP (D.take (k + 1)) = max (greatestP (D.take k)) D[k] := by
  unfold greatestP
  rw [take_snoc D k hk, List.foldl_append]
  rfl
theorem greatestP_le (D : List Int) (m : Int) (hm : -1 ≤ m) (h : ∀ x ∈ D, x ≤ m) : greatestP D ≤ m := by
  unfold greatestP
  suffices ∀ a : Int, a ≤ m → D.foldl max a ≤ m from this _ hm
  induction D with
  | nil => intro a ha; exact ha
  | cons x D ih => intro a ha; exact ih (fun y hy => h y (by simp [hy])) _ (Int.max_le.2 ⟨ha, h x (by simp)⟩)
theorem greatestP_ge (D : List Int) : ∀ x ∈ D, x ≤ greatestP D := by
  unfold greatestP
  suffices ∀ a : Int, ∀ x ∈ D, x ≤ D.foldl max a from this _
  induction D with
  | nil => intro a x hx; simp at hx
  | cons y D ih =>
    intro a x hx
    rcases List.mem_cons.1 hx with rfl | hx
    · exact Int.le_trans (Int.le_max_right a x) (foldl_max_ge D _)
    · exact ih _ x hx
theorem greatestP_min (D : List Int) : -1 ≤ greatestP D := foldl_max_ge D _

theorem distL_length {g : Gr} (hg : GoodG g) {a : Nat} (ha : a < g.ports.length) : (distL g a).length = g.ports.length := (distL_isDist hg ha).1

theorem Walk.trans {g : Gr} {a b : Nat} : ∀ {j : Nat} {c : Nat} {k : Nat}, Walk g a k b → Walk g b j c → Walk g a (k + j) c
  | 0, c, k, h1, h2 => by obtain rfl : c = b := h2; exact h1
  | j + 1, c, k, h1, h2 => by
    obtain ⟨u, hu, huc⟩ := h2
    exact ⟨u, Walk.trans h1 hu, huc⟩
theorem Walk.one {g : Gr} {a b : Nat} (h : adj g a b) : Walk g a 1 b := ⟨a, rfl, h⟩
theorem Walk.symm {g : Gr} (hg : GoodG g) {a : Nat} : ∀ {k : Nat} {b : Nat}, Walk g a k b → Walk g b k a
  | 0, b, h => by obtain rfl : b = a := h; exact rfl
  | k + 1, b, h => by
    obtain ⟨u, hu, hub⟩ := h
    have := Walk.trans (Walk.one (hg.adj_symm hub)) (Walk.symm hg hu)
    rwa [Nat.add_comm] at this

theorem all_iff {g : Gr} (hg : GoodG g) {a : Nat} (ha : a < g.ports.length) : (distL g a).all (fun x => decide (0 ≤ x)) = true ↔ ∀ v, v < g.ports.length → ∃ k, Walk g a k v := by
  have hd := distL_isDist hg ha
  rw [List.all_eq_true]
  constructor
  · intro h v hv
    have hv' : v < (distL g a).length := by rw [hd.1]; exact hv
    rcases hd.2 v _ (List.getElem?_eq_getElem hv') with ⟨e, _⟩ | ⟨k, _, hk, _⟩
    · have := of_decide_eq_true (h _ (List.getElem_mem hv'))
      omega
    · exact ⟨k, hk⟩
  · intro h x hx
    obtain ⟨v, hv, rfl⟩ := List.mem_iff_getElem.1 hx
    obtain ⟨k, hk⟩ := h v (by rw [← hd.1]; exact hv)
    rcases hd.2 v _ (List.getElem?_eq_getElem hv) with ⟨e, h1⟩ | ⟨k, e, _⟩
    · exact absurd hk (h1 k)
    · rw [e]; simp

theorem all_same {g : Gr} (hg : GoodG g) {a b : Nat} (ha : a < g.ports.length) (hb : b < g.ports.length) (h : (distL g a).all (fun x => decide (0 ≤ x)) = true) : (distL g b).all (fun x => decide (0 ≤ x)) = true := by
  rw [all_iff hg ha] at h
  rw [all_iff hg hb]
  intro v hv
  obtain ⟨k, hk⟩ := h v hv
  obtain ⟨j, hj⟩ := h b hb
  exact ⟨_, Walk.trans (Walk.symm hg hj) hk⟩

theorem distsP_in {g : Gr} (hv : validB g = true) {v : Int} (h1 : 0 ≤ v) (h2 : v < g.ports.length) : distsP g v = distL g v.toNat := if_pos ⟨hv, h1, h2⟩
theorem distsP_out {g : Gr} {v : Int} (h : ¬ (validB g = true ∧ 0 ≤ v ∧ v < g.ports.length)) : distsP g v = [] := if_neg h
theorem refGreatest_nil : refGreatest [] = -1 := rfl
theorem refConn_eq (g : Gr) : decide (0 ≤ refGreatest (distsP g 0)) = connB g := by
  unfold connB
  cases hv : validB g with
  | false =>
    rw [distsP_out (by simp [hv]), refGreatest_nil]
    rfl
  | true =>
    have hg := (validB_iff g).1 hv
    have hn := hg.1
    rw [distsP_in hv (by omega) (by omega)]
    unfold refGreatest
    simp only [Int.toNat_zero]
    cases ha : (distL g 0).all (fun x => decide (0 ≤ x)) with
    | false => simp
    | true =>
      have hl := distL_length hg (a := 0) (by omega)
      have h0 : (0 : Int) ≤ greatestP (distL g 0) := by
        have hm : (distL g 0)[0]'(by omega) ∈ distL g 0 := List.getElem_mem _
        exact Int.le_trans (of_decide_eq_true (List.all_eq_true.1 ha _ hm)) (greatestP_ge _ _ hm)
      simp [h0]
theorem refEcc_eq (g : Gr) (v : Int) : refGreatest (distsP g v) = eccP g v := by
  unfold eccP connB
  by_cases hr : validB g = true ∧ 0 ≤ v ∧ v < g.ports.length
  · obtain ⟨hv, h1, h2⟩ := hr
    have hg := (validB_iff g).1 hv
    rw [distsP_in hv h1 h2, hv]
    unfold refGreatest
    cases ha : (distL g v.toNat).all (fun x => decide (0 ≤ x)) with
    | true =>
      have := all_same hg (a := v.toNat) (b := 0) (by omega) (by omega) ha
      simp [this, h1, h2]
    | false =>
      have : (distL g 0).all (fun x => decide (0 ≤ x)) = false := by
        cases h0 : (distL g 0).all (fun x => decide (0 ≤ x)) with
        | false => rfl
        | true =>
          have := all_same hg (a := 0) (b := v.toNat) (by omega) (by omega) h0
          rw [ha] at this
          cases this
      simp [this]
  · rw [distsP_out hr, refGreatest_nil, if_neg]
    intro h
    exact hr ⟨(Bool.and_eq_true _ _ ▸ h.1).1, h.2⟩
end Go.Proofs.Ytlfojfndkcmfnaa
namespace Go.Proofs.Ytlfojfndkcmfnaa

abbrev Conf := List (List Int)
abbrev Bounds := List (Int × Int)

def stateB (bs : Bounds) (s : List Int) : Bool := decide (s.length = bs.length) && (bs.zip s).all (fun p => decide (p.1.1 ≤ p.2) && decide (p.2 ≤ p.1.2))
def confB (n : Nat) (bs : Nat → Bounds) (c : Conf) : Bool := decide (c.length = n) && c.zipIdx.all (fun p => stateB (bs p.2) p.1)

def StateOk (bs : Bounds) (s : List Int) : Prop := s.length = bs.length ∧ ∀ (i : Nat) b x, bs[i]? = some b → s[i]? = some x → b.1 ≤ x ∧ x ≤ b.2
def ConfOk (n : Nat) (bs : Nat → Bounds) (c : Conf) : Prop := c.length = n ∧ ∀ (v : Nat) s, c[v]? = some s → StateOk (bs v) s

theorem stateB_iff (bs : Bounds) (s : List Int) : stateB bs s = true ↔ StateOk bs s := by
  unfold stateB StateOk
  rw [Bool.and_eq_true, decide_eq_true_iff, List.all_eq_true]
  refine and_congr_right fun _ => ⟨fun h i b x hb hx => ?_, fun h p hp => ?_⟩
  · have := h (b, x) (List.mem_of_getElem? (i := i) (by simp [List.getElem?_zip_eq_some, hb, hx]))
    simpa using this
  · obtain ⟨i, hi⟩ := List.mem_iff_getElem?.1 hp
    obtain ⟨b, x⟩ := p
    rw [List.getElem?_zip_eq_some] at hi
    simpa using h i b x hi.1 hi.2
theorem confB_iff (n : Nat) (bs : Nat → Bounds) (c : Conf) : confB n bs c = true ↔ ConfOk n bs c := by
  unfold confB ConfOk
  rw [Bool.and_eq_true, decide_eq_true_iff, List.all_eq_true]
  refine and_congr_right fun _ => ⟨fun h v s hs => ?_, fun h p hp => ?_⟩
  · refine (stateB_iff _ _).1 (h (s, v) ?_)
    rw [List.mem_zipIdx_iff_getElem?]
    exact hs
  · rw [List.mem_zipIdx_iff_getElem?] at hp
    exact (stateB_iff _ _).2 (h p.2 p.1 hp)
theorem confB_false {n : Nat} {bs : Nat → Bounds} {c : Conf} (h : ¬ ConfOk n bs c) : confB n bs c = false := by
  cases hb : confB n bs c with
  | false => rfl
  | true => exact absurd ((confB_iff n bs c).1 hb) h
theorem confB_true {n : Nat} {bs : Nat → Bounds} {c : Conf} (h : ConfOk n bs c) : confB n bs c = true := (confB_iff n bs c).2 h
theorem stateOk_of {bs : Bounds} {s : List Int} (hl : s.length = bs.length) (h : ∀ i (hi : i < s.length) (hb : i < bs.length), bs[i].1 ≤ s[i] ∧ s[i] ≤ bs[i].2) : StateOk bs s := by
  refine ⟨hl, fun i b x hb hx => ?_⟩
  obtain ⟨h1, rfl⟩ := List.getElem?_eq_some_iff.1 hb
  obtain ⟨h2, rfl⟩ := List.getElem?_eq_some_iff.1 hx
  exact h i h2 h1

/-- The degree of node v. -/
def degOf (g : Gr) (v : Nat) : Nat := (g.ports.getD v []).length
/-- bfs.Configuration's bounds: -1 stands for a port. -/
def boundsG (g : Gr) (G : List Int) (v : Nat) : Bounds := G.map (fun h => if h = -1 then (-1, (degOf g v : Int) - 1) else (0, h))
def topID (g : Gr) : Int := g.ids.foldl max 0
end Go.Proofs.Ytlfojfndkcmfnaa
namespace Go.Proofs.Ytlfojfndkcmfnaa
open Go.RowKit

theorem In_t (v lo hi : Int) (w : World) (h1 : lo ≤ v) (h2 : v ≤ hi) :
    Calls Try.prog 80 #[.int .i64 v, .int .i64 lo, .int .i64 hi] w fun e w' => e = .returned (.bool true) ∧ w = w' := by
  go_enter Try.func80, Try.ntmps80
  go_wp2
  go_ret
  exact ⟨rfl, rfl⟩

theorem In_f (v lo hi : Int) (w : World) (h : v < lo ∨ hi < v) :
    Calls Try.prog 80 #[.int .i64 v, .int .i64 lo, .int .i64 hi] w fun e w' => e = .returned (.bool false) ∧ w = w' := by
  by_cases h1 : lo ≤ v
  · have h2 : hi < v := by omega
    go_enter Try.func80, Try.ntmps80
    go_wp2
    go_ret
    exact ⟨ret_bool (by simp; omega), rfl⟩
  · go_enter Try.func80, Try.ntmps80
    go_wp2
    go_ret
    exact ⟨rfl, rfl⟩

theorem Port_any (gv : Value) (g : Gr) (v : Nat) (ls : List (Int × Int)) (u : Int) (w : World) (hg : GrAt w gv g) (hv : g.ports[v]? = some ls) :
    Calls Try.prog 97 #[gv, .int .i64 v, .int .i64 u] w fun e w' => e = .returned (.int .i64 (portTo ls u)) ∧ Below w.heap.size w w' := by
  obtain ⟨i, p, rfl, _, A, c, rfl, hc1, hc2, hp⟩ := hg
  have hvlt : v < g.ports.length := (List.getElem?_eq_some_iff.1 hv).1
  obtain ⟨b, off, rfl, hb, hP⟩ := hp (by omega)
  obtain ⟨lv, hcell, A2, c2, rfl, hl1, hl2, hL⟩ := hP v ls hv
  simp only [Nat.mul_one] at hcell
  have HL := Lib.hid hL
  have HP := Lib.hid hP
  have Hv := Lib.hid hv
  clear hL hP hv hp
  go_enter Try.func97, Try.ntmps97
  go_wp2
  go_loop [7] (fun t => ∃ k : Nat, k ≤ ls.length ∧ t = .int .i64 k ∧ Hid ((ls.take k).findIdx? (fun l => l.1 == u) = none)) (fun t => ls.length - (intOf t).toNat)
  case atStart => exact ⟨0, by omega, rfl, Lib.hid (by simp)⟩
  case round =>
    obtain ⟨k, hk, rfl, hnone⟩ := hrel
    by_cases hlt : k < ls.length
    · obtain ⟨b2, off2, rfl, hb2, hE⟩ := HL.out (by omega)
      obtain ⟨e1, e2, hw1, hw2⟩ := hE k ls[k] (List.getElem?_eq_getElem hlt)
      have HE := Lib.hid hE
      clear hE
      by_cases heq : ls[k].1 = u
      · have heq' : (ls[k].1 == u) = true := by simp [heq]
        have Hr := Lib.hid (portTo_hit ls u k hlt heq hnone.out)
        clear heq
        go_wp2
        go_ret
        exact ⟨ret_int Hr.out.symm, (Below.refl _ _).alloc (Nat.le_refl _) _⟩
      · have heq' : (ls[k].1 == u) = false := by simp [heq]
        have Hr := Lib.hid (findIdx_snoc ls u k hlt heq hnone.out)
        clear heq
        go_wp2
        go_round
        case rel => exact ⟨k + 1, by omega, by go_num, Hr⟩
        case measure => simp [intOf]; omega
    · have hkl : k = ls.length := by omega
      subst hkl
      have Hr := Lib.hid (portTo_none ls u hnone.out)
      go_wp2
      go_ret
      exact ⟨ret_int Hr.out.symm, (Below.refl _ _).alloc (Nat.le_refl _) _⟩


theorem linksValid_any (lv : Value) (ls : List (Int × Int)) (v n : Int) (w : World) (hl : LinksAt w lv ls) (hn : 0 ≤ n ∧ n ≤ 1000) :
    Calls Try.prog 96 #[lv, .int .i64 v, .int .i64 n] w fun e w' => e = .returned (.bool (linksB ls v n)) ∧ ∃ m, w' = w.drewN m := by
  obtain ⟨hn1, hn2⟩ := hn
  obtain ⟨A, c, rfl, hc1, hc2, hL⟩ := hl
  have HL := Lib.hid hL
  clear hL
  go_enter Try.func96, Try.ntmps96
  go_wp2
  go_loopw [7] (fun t wr => ∃ k m : Nat, k ≤ ls.length ∧ t = .int .i64 k ∧ wr = w.drewN m ∧ Hid (linksOk (ls.take k) v n)) (fun t _ => ls.length - (intOf t).toNat)
  case atStart => exact ⟨0, 0, by omega, rfl, rfl, Lib.hid ⟨by simp, by simp⟩⟩
  case round =>
    obtain ⟨k, m, hk, rfl, rfl, hok⟩ := hrel
    by_cases hlt : k < ls.length
    · obtain ⟨b2, off2, rfl, hb2, hE⟩ := HL.out (by omega)
      obtain ⟨e1, e2, ⟨hw1, hw1'⟩, ⟨hw2, hw2'⟩⟩ := hE k ls[k] (List.getElem?_eq_getElem hlt)
      have HE := Lib.hid hE
      clear hE
      have Hsn := Lib.hid (linksOk_snoc ls v n k hlt)
      have Hbad := Lib.hid (fun h => linksB_false_of ls v n (k + 1) h)
      by_cases c1 : 0 ≤ ls[k].1 ∧ ls[k].1 ≤ n - 1
      · obtain ⟨c1a, c1b⟩ := c1
        by_cases c2 : ls[k].1 = v
        · have c2' : (ls[k].1 == v) = true := by simp [c2]
          have Hf := Lib.hid (Hbad.out (fun h => ((Hsn.out.1 h).2.1).2.2.1 c2))
          clear c2
          go_wp2_with (first | (go_at_call 80; refine (In_t _ _ _ _ (by omega) (by omega)).mono ?_; rintro e w' ⟨rfl, rfl⟩))
          go_ret
          exact ⟨ret_bool Hf.out.symm, m, rfl⟩
        · have c2' : (ls[k].1 == v) = false := by simp [c2]
          by_cases c3 : 1 ≤ ls[k].2 ∧ ls[k].2 ≤ 15
          · obtain ⟨c3a, c3b⟩ := c3
            have Hlk := Lib.hid (show linkOk v n ls[k] from ⟨c1a, c1b, c2, c3a, c3b⟩)
            clear c2
            go_wp2_with (first | (go_at_call 80; refine (In_t _ _ _ _ (by omega) (by omega)).mono ?_; rintro e w' ⟨rfl, rfl⟩))
            go_loopw [8] (fun t wr => ∃ j m2 : Nat, j ≤ k ∧ t = .int .i64 j ∧ wr = w.drewN m2 ∧ Hid (∀ i (hi : i < j) (hj : j ≤ k), ls[i].1 ≠ ls[k].1)) (fun t _ => k - (intOf t).toNat)
            case atStart => exact ⟨0, m, by omega, rfl, rfl, Lib.hid (fun i hi => absurd hi (by omega))⟩
            case round =>
              obtain ⟨j, m2, hj, rfl, rfl, hne⟩ := hrel
              by_cases hjk : j < k
              · obtain ⟨f1, f2, _, _⟩ := HE.out j ls[j] (List.getElem?_eq_getElem (by omega))
                by_cases c4 : ls[j].1 = ls[k].1
                · have c4' : (ls[j].1 == ls[k].1) = true := by simp [c4]
                  have Hf := Lib.hid (Hbad.out (fun h => (Hsn.out.1 h).2.2 j hjk c4))
                  clear c4
                  go_wp2
                  go_quiet (fail)
                  go_wp2
                  go_ret
                  exact ⟨ret_bool Hf.out.symm, _, World.drewN_drewN _ _ _⟩
                · have c4' : (ls[j].1 == ls[k].1) = false := by simp [c4]
                  have Hc4 := Lib.hid c4
                  clear c4
                  go_wp2
                  go_quiet (fail)
                  go_wp2
                  go_roundw
                  case rel =>
                    refine ⟨j + 1, _, by omega, by go_num, rfl, Lib.hid (fun i hi hj' => ?_)⟩
                    by_cases hij : i < j
                    · exact hne.out i hij hj
                    · obtain rfl : i = j := by omega
                      exact Hc4.out
                  case measure => simp [intOf]; omega
              · obtain rfl : j = k := by omega
                go_wp2
                go_roundw
                case rel => exact ⟨j + 1, _, by omega, by go_num, rfl, Lib.hid (Hsn.out.2 ⟨hok.out, Hlk.out, fun i hi => hne.out i hi (Nat.le_refl _)⟩)⟩
                case measure => simp [intOf]; omega
          · have Hf := Lib.hid (Hbad.out (fun h => c3 ⟨((Hsn.out.1 h).2.1).2.2.2.1, ((Hsn.out.1 h).2.1).2.2.2.2⟩))
            clear c2
            have c3' : ls[k].2 < 1 ∨ 15 < ls[k].2 := by omega
            clear c3
            go_wp2_with (first | (go_at_call 80; refine (In_t _ _ _ _ (by omega) (by omega)).mono ?_; rintro e w' ⟨rfl, rfl⟩) | (go_at_call 80; refine (In_f _ _ _ _ (by omega)).mono ?_; rintro e w' ⟨rfl, rfl⟩))
            go_ret
            exact ⟨ret_bool Hf.out.symm, m, rfl⟩
      · have Hf := Lib.hid (Hbad.out (fun h => c1 ⟨((Hsn.out.1 h).2.1).1, ((Hsn.out.1 h).2.1).2.1⟩))
        have c1' : ls[k].1 < 0 ∨ n - 1 < ls[k].1 := by omega
        clear c1
        go_wp2_with (first | (go_at_call 80; refine (In_f _ _ _ _ (by omega)).mono ?_; rintro e w' ⟨rfl, rfl⟩))
        go_ret
        exact ⟨ret_bool Hf.out.symm, m, rfl⟩
    · obtain rfl : k = ls.length := by omega
      have Ht := Lib.hid (linksB_true_of ls v n hok.out)
      go_wp2
      go_ret
      exact ⟨ret_bool Ht.out.symm, m, rfl⟩

end Go.Proofs.Ytlfojfndkcmfnaa
namespace Go.Proofs.Ytlfojfndkcmfnaa
open Go.RowKit

set_option maxHeartbeats 2000000 in
theorem refValid_any (gv : Value) (g : Gr) (w : World) (hg : GrAt w gv g) :
    Calls Try.prog 78 #[gv] w fun e w' => e = .returned (.bool (validB g)) ∧ Below w.heap.size w w' := by
  have hg0 := Lib.hid hg
  obtain ⟨i, p, rfl, hi, hp⟩ := hg
  obtain ⟨A, c, rfl, hA1, hA2⟩ := slAt_form hi
  obtain ⟨A2, c2, rfl, hB1, hB2⟩ := slAt_form hp
  have Hi := Lib.hid hi
  have Hp := Lib.hid hp
  clear hi hp
  by_cases n1 : 1 ≤ g.ports.length ∧ g.ports.length ≤ 24
  · obtain ⟨n1a, n1b⟩ := n1
    by_cases n2 : g.ids.length = g.ports.length
    · have n2' : ((g.ids.length : Int) != (g.ports.length : Int)) = false := by simp [n2]
      have Hn2 := Lib.hid n2
      have n2a : g.ids.length ≤ g.ports.length := by omega
      have n2b : g.ports.length ≤ g.ids.length := by omega
      clear n2
      go_enter Try.func78, Try.ntmps78
      go_wp2_with (first | (go_at_call 80; refine (In_t _ _ _ _ (by omega) (by omega)).mono ?_; rintro e w' ⟨rfl, rfl⟩))
      go_loopw [4] (fun t wr => ∃ k : Nat, k ≤ g.ports.length ∧ t = .int .i64 k ∧ Hid (Below (w.heap.size + 1) (w.alloc (.cells #[.slice A g.ids.length c, .slice A2 g.ports.length c2] 25)) wr) ∧ Hid (∀ v, v < k → V2 g v)) (fun t _ => g.ports.length - (intOf t).toNat)
      case atStart => exact ⟨0, by omega, rfl, Lib.hid (Below.refl _ _), Lib.hid (fun v hv => absurd hv (by omega))⟩
      case round =>
        obtain ⟨k, hk, rfl, hbel, hv2⟩ := hrel
        obtain ⟨q0, q1, hbw, hsz⟩ := box2 hbel.out
        have Hbw := Lib.hid hbw
        clear hbw
        by_cases hlt : k < g.ports.length
        · obtain ⟨b, off, rfl, hb, hcid, hr⟩ := intsAt_at (Hi.out.below Stable.int Hbw.out) (show k < g.ids.length by omega)
          obtain ⟨b2, off2, lv, rfl, hb2, hcl, hls⟩ := rowsAt_at (Hp.out.below (Stable.sl Stable.link) Hbw.out) (List.getElem?_eq_getElem hlt)
          obtain ⟨A3, c3, rfl, hl1, hl2⟩ := slAt_form hls
          have Hls := Lib.hid hls
          clear hls
          obtain ⟨x, hx⟩ : ∃ x, g.ids[k]? = some x := ⟨_, List.getElem?_eq_getElem (by omega)⟩
          have hxe : g.ids[k] = x := by have := List.getElem?_eq_getElem (l := g.ids) (i := k) (by omega); rw [hx] at this; exact (Option.some.inj this).symm
          simp only [hxe] at hcid hr
          obtain ⟨ls, hle⟩ : ∃ ls, g.ports[k] = ls := ⟨_, rfl⟩
          have hlp : g.ports[k]? = some ls := by rw [List.getElem?_eq_getElem hlt, hle]
          simp only [hle] at hcl hl1 Hls
          have Hx := Lib.hid hx
          have Hlp := Lib.hid hlp
          clear hx hxe hle hlp
          obtain ⟨hr1, hr2⟩ := hr
          have Hbad := Lib.hid (fun h => validB_false_v2 (g := g) (v := k) hlt h)
          by_cases c1 : 0 ≤ x ∧ x ≤ 255
          · obtain ⟨c1a, c1b⟩ := c1
            by_cases c2 : ls.length < g.ports.length
            · have c2d : decide (g.ports.length ≤ ls.length) = false := by simp; omega
              by_cases c3 : linksB ls (k : Int) (g.ports.length : Int) = true
              · go_wp2_with (first | (go_at_call 80; refine (In_t _ _ _ _ (by omega) (by omega)).mono ?_; rintro e w' ⟨rfl, rfl⟩) | (go_at_call 96; refine (linksValid_any _ ls _ _ _ Hls.out ⟨by omega, by omega⟩).mono ?_; rintro e w' ⟨rfl, m, rfl⟩))
                obtain ⟨w2, hw2⟩ : ∃ w2, w2 = wr.drewN m := ⟨_, rfl⟩
                rw [← hw2]
                have Hb2 := Lib.hid (below_of_drewN hbel.out hw2)
                clear hw2
                go_loopw [5] (fun t wq => ∃ j m2 : Nat, j ≤ k ∧ t = .int .i64 j ∧ wq = w2.drewN m2 ∧ Hid (∀ u y, u < j → g.ids[u]? = some y → y ≠ x)) (fun t _ => k - (intOf t).toNat)
                case atStart => exact ⟨0, 0, by omega, rfl, rfl, Lib.hid (fun u y hu => absurd hu (by omega))⟩
                case round =>
                  obtain ⟨j, m2, hj, rfl, rfl, hne⟩ := hrel
                  obtain ⟨q0, q1, hbw, hsz⟩ := box2 Hb2.out
                  have Hbw2 := Lib.hid hbw
                  obtain ⟨b', off', e', hb', hcid, _⟩ := intsAt_at (Hi.out.below Stable.int Hbw2.out) (show k < g.ids.length by omega)
                  cases e'
                  clear hbw
                  have hkx : g.ids[k] = x := by have := List.getElem?_eq_getElem (l := g.ids) (i := k) (by omega); rw [Hx.out] at this; exact (Option.some.inj this).symm
                  rw [hkx] at hcid
                  clear hkx
                  by_cases hjk : j < k
                  · obtain ⟨b', off', e', hb', hcj, _⟩ := intsAt_at (Hi.out.below Stable.int Hbw2.out) (show j < g.ids.length by omega)
                    cases e'
                    by_cases c4 : g.ids[j] = x
                    · have c4' : (g.ids[j] == x) = true := by simp [c4]
                      have Hf := Lib.hid (Hbad.out (fun h => (h x ls Hx.out Hlp.out).2.2.2 j _ hjk (List.getElem?_eq_getElem (by omega)) c4))
                      clear c4
                      go_wp2
                      go_quiet (fail)
                      go_wp2
                      go_ret
                      exact ⟨ret_bool Hf.out.symm, below_drewN (below_drewN (box2 Hb2.out).2.2.1 _) _⟩
                    · have c4' : (g.ids[j] == x) = false := by simp [c4]
                      have Hc4 := Lib.hid c4
                      clear c4
                      go_wp2
                      go_quiet (fail)
                      go_wp2
                      go_roundw
                      case rel =>
                        refine ⟨j + 1, _, by omega, by go_num, rfl, Lib.hid (fun u y hu hy => ?_)⟩
                        by_cases huj : u < j
                        · exact hne.out u y huj hy
                        · obtain rfl : u = j := by omega
                          rw [List.getElem?_eq_getElem (by omega)] at hy
                          cases hy
                          exact Hc4.out
                      case measure => simp [intOf]; omega
                  · obtain rfl : j = k := by omega
                    go_wp2
                    go_roundw
                    case rel =>
                      refine ⟨j + 1, by omega, by go_num, Lib.hid (below_drewN Hb2.out _), Lib.hid (fun v hv => ?_)⟩
                      by_cases hvj : v < j
                      · exact hv2.out v hvj
                      · obtain rfl : v = j := by omega
                        intro x' ls' hx' hls'
                        rw [Hx.out] at hx'
                        rw [Hlp.out] at hls'
                        cases hx'
                        cases hls'
                        exact ⟨⟨c1a, c1b⟩, c2, c3, hne.out⟩
                    case measure => simp [intOf]; omega
              · have c3' : linksB ls (k : Int) (g.ports.length : Int) = false := by simpa using c3
                have Hf := Lib.hid (Hbad.out (fun h => c3 (h x ls Hx.out Hlp.out).2.2.1))
                clear c3
                go_wp2_with (first | (go_at_call 80; refine (In_t _ _ _ _ (by omega) (by omega)).mono ?_; rintro e w' ⟨rfl, rfl⟩) | (go_at_call 96; refine (linksValid_any _ ls _ _ _ Hls.out ⟨by omega, by omega⟩).mono ?_; rintro e w' ⟨rfl, m, rfl⟩))
                go_ret
                exact ⟨ret_bool Hf.out.symm, below_drewN Hbw.out _⟩
            · have c2d : decide (g.ports.length ≤ ls.length) = true := by simp; omega
              have Hf := Lib.hid (Hbad.out (fun h => c2 (h x ls Hx.out Hlp.out).2.1))
              go_wp2_with (first | (go_at_call 80; refine (In_t _ _ _ _ (by omega) (by omega)).mono ?_; rintro e w' ⟨rfl, rfl⟩) | (go_at_call 96; refine (linksValid_any _ ls _ _ _ Hls.out ⟨by omega, by omega⟩).mono ?_; rintro e w' ⟨rfl, m, rfl⟩))
              go_ret
              exact ⟨ret_bool Hf.out.symm, Hbw.out⟩
          · have Hf := Lib.hid (Hbad.out (fun h => c1 (h x ls Hx.out Hlp.out).1))
            have c1' : x < 0 ∨ 255 < x := by omega
            clear c1
            go_wp2_with (first | (go_at_call 80; refine (In_f _ _ _ _ (by omega)).mono ?_; rintro e w' ⟨rfl, rfl⟩))
            go_ret
            exact ⟨ret_bool Hf.out.symm, Hbw.out⟩
        · obtain rfl : k = g.ports.length := by omega
          go_wp2
          go_loopw [6] (fun t wr => ∃ k : Nat, k ≤ g.ports.length ∧ t = .int .i64 k ∧ Hid (Below (w.heap.size + 1) (w.alloc (.cells #[.slice A g.ids.length c, .slice A2 g.ports.length c2] 25)) wr) ∧ Hid (∀ v i, v < k → V3 g v i)) (fun t _ => g.ports.length - (intOf t).toNat)
          case atStart => exact ⟨0, by omega, rfl, hbel, Lib.hid (fun v i hv => absurd hv (by omega))⟩
          case round =>
            clear hbel Hbw q0 q1 hsz
            obtain ⟨k, hk, rfl, hbel, hv3⟩ := hrel
            obtain ⟨q0, q1, hbw, hsz⟩ := box2 hbel.out
            have Hbw := Lib.hid hbw
            clear hbw
            by_cases hlt : k < g.ports.length
            · obtain ⟨ls, hle⟩ : ∃ ls, g.ports[k] = ls := ⟨_, rfl⟩
              have hlp : g.ports[k]? = some ls := by rw [List.getElem?_eq_getElem hlt, hle]
              have Hlp := Lib.hid hlp
              clear hle hlp
              have Hlk := Lib.hid (show ∀ l ∈ ls, linkOk k g.ports.length l by
                have := (hv2.out k hlt _ ls (List.getElem?_eq_getElem (by omega)) Hlp.out).2.2.1
                exact fun l hl => (of_decide_eq_true this).1 l hl)
              have Hbad := Lib.hid (fun i h => validB_false_v3 (g := g) (v := k) (i := i) hlt h)
              go_wp2
              go_loopw [7] (fun t wr => ∃ i : Nat, i ≤ ls.length ∧ t = .int .i64 i ∧ Hid (Below (w.heap.size + 1) (w.alloc (.cells #[.slice A g.ids.length c, .slice A2 g.ports.length c2] 25)) wr) ∧ Hid (∀ j, j < i → V3 g k j)) (fun t _ => ls.length - (intOf t).toNat)
              case atStart => exact ⟨0, by omega, rfl, hbel, Lib.hid (fun j hj => absurd hj (by omega))⟩
              case round =>
                clear hbel Hbw q0 q1 hsz
                obtain ⟨i, hi, rfl, hbel, hv3'⟩ := hrel
                obtain ⟨q0, q1, hbw, hsz⟩ := box2 hbel.out
                have Hbw := Lib.hid hbw
                obtain ⟨b2, off2, lv, rfl, hb2, hcl, hls⟩ := rowsAt_at (Hp.out.below (Stable.sl Stable.link) Hbw.out) Hlp.out
                obtain ⟨A3, c3, rfl, hl1, hl2⟩ := slAt_form hls
                by_cases hil : i < ls.length
                · obtain ⟨A4, c4, e4, _, _, hE⟩ := hls
                  cases e4
                  obtain ⟨b3, off3, rfl, hb3, hE⟩ := hE (by omega)
                  obtain ⟨⟨l1, wt⟩, hle⟩ : ∃ l, ls[i] = l := ⟨_, rfl⟩
                  have hl? : ls[i]? = some (l1, wt) := by rw [List.getElem?_eq_getElem hil, hle]
                  obtain ⟨hx1, hx2, ⟨hr1, hr2⟩, ⟨hr3, hr4⟩⟩ := hE i _ hl?
                  have hlk := Hlk.out (l1, wt) (List.mem_of_getElem? hl?)
                  unfold linkOk at hlk
                  obtain ⟨k1, k2, k3, k4, k5⟩ := hlk
                  simp only at k1 k2 k3 k4 k5 hx1 hx2 hr1 hr2 hr3 hr4
                  obtain ⟨t, rfl⟩ := Int.eq_ofNat_of_zero_le k1
                  have htl : t < g.ports.length := by omega
                  obtain ⟨b', off', lv', e', hb', hcl', hls'⟩ := rowsAt_at (Hp.out.below (Stable.sl Stable.link) Hbw.out) (List.getElem?_eq_getElem htl)
                  cases e'
                  obtain ⟨A5, c5, rfl, hm1, hm2⟩ := slAt_form hls'
                  obtain ⟨ls', hle'⟩ : ∃ ls', g.ports[t] = ls' := ⟨_, rfl⟩
                  have Hlp' := Lib.hid (show g.ports[t]? = some ls' by rw [List.getElem?_eq_getElem htl, hle'])
                  rw [hle'] at hls' hcl' hm1
                  have Hl? := Lib.hid hl?
                  have HE := Lib.hid hE
                  have Hls' := Lib.hid hls'
                  have Hbb := Lib.hid (Hbad.out i)
                  clear hle hle' hl? hE hls' k1 k3 hbw
                  have Hgr := Lib.hid (hg0.out.below Hbw.out)
                  rcases portTo_neg_or (ls := ls') (u := (k : Int)) with hpt | ⟨q, hpt, hq⟩
                  · have Hpt := Lib.hid hpt
                    clear hpt
                    have Hf := Lib.hid (Hbb.out (fun h => by
                      obtain ⟨ls2, q2, l2, f1, f2, _⟩ := h ls _ Hlp.out Hl?.out
                      rw [Int.toNat_natCast, Hlp'.out] at f1
                      cases f1
                      rw [Hpt.out] at f2
                      omega))
                    go_wp2_with fail
                    refine (Port_any _ g t ls' k _ (Hgr.out.below ((Below.refl _ _).alloc (Nat.le_refl _) _)) Hlp'.out).mono ?_
                    rintro e w3 ⟨rfl, hb3w⟩
                    rw [Hpt.out]
                    have d0 := keepA hb3w _ _ q0
                    have d1 := keepA hb3w _ _ q1
                    have d2 := keepA hb3w _ _ hcl'
                    obtain ⟨d3, d4⟩ := newA2 hb3w
                    have Hb3 := Lib.hid (belowA hb3w)
                    have hz3 : wr.heap.size < w3.heap.size := by have := hb3w.size; simp at this; omega
                    clear hb3w
                    go_wp2
                    go_quiet (fail)
                    go_wp2
                    go_ret
                    exact ⟨ret_bool Hf.out.symm, below_drewN (Hbw.out.trans (Hb3.out.mono Hbw.out.size)) _⟩
                  · have Hpt := Lib.hid hpt
                    clear hpt
                    obtain ⟨A6, c6, e6, _, _, hE6⟩ := Hls'.out
                    cases e6
                    obtain ⟨b6, off6, rfl, hb6, hE6⟩ := hE6 (by omega)
                    obtain ⟨⟨y1, y2⟩, hqe⟩ : ∃ l, ls'[q] = l := ⟨_, rfl⟩
                    have hq? : ls'[q]? = some (y1, y2) := by rw [List.getElem?_eq_getElem hq, hqe]
                    obtain ⟨_, hx4, _, _⟩ := hE6 q _ hq?
                    simp only at hx4
                    have Hq? := Lib.hid hq?
                    clear hqe hq? hE6
                    by_cases c7 : y2 = wt
                    · have c7' : (y2 != wt) = false := by simp [c7]
                      have Hv := Lib.hid (show V3 g k i from fun ls2 l2 f1 f2 => by
                        rw [Hlp.out] at f1
                        cases f1
                        rw [Hl?.out] at f2
                        cases f2
                        exact ⟨ls', q, (y1, y2), by rw [Int.toNat_natCast]; exact Hlp'.out, Hpt.out, Hq?.out, c7⟩)
                      clear c7
                      go_wp2_with fail
                      refine (Port_any _ g t ls' k _ (Hgr.out.below ((Below.refl _ _).alloc (Nat.le_refl _) _)) Hlp'.out).mono ?_
                      rintro e w3 ⟨rfl, hb3w⟩
                      rw [Hpt.out]
                      have d0 := keepA hb3w _ _ q0
                      have d1 := keepA hb3w _ _ q1
                      have d2 := keepA hb3w _ _ hcl'
                      obtain ⟨d3, d4⟩ := newA2 hb3w
                      have Hb3 := Lib.hid (belowA hb3w)
                      have hz3 : wr.heap.size < w3.heap.size := by have := hb3w.size; simp at this; omega
                      clear hb3w
                      have d5 := (Hb3.out.cell hb6).trans hx4
                      go_wp2
                      go_quiet (fail)
                      go_wp2
                      go_roundw
                      case rel =>
                        refine ⟨i + 1, by omega, by go_num, Lib.hid (below_drewN (hbel.out.trans (Hb3.out.mono (by have := hbel.out.size; simp at this; omega))) _), Lib.hid (fun j hj => ?_)⟩
                        by_cases hji : j < i
                        · exact hv3'.out j hji
                        · obtain rfl : j = i := by omega
                          exact Hv.out
                      case measure => simp [intOf]; omega
                    · have c7' : (y2 != wt) = true := by simp [c7]
                      have Hf := Lib.hid (Hbb.out (fun h => by
                        obtain ⟨ls2, q2, l2, f1, f2, f3, f4⟩ := h ls _ Hlp.out Hl?.out
                        rw [Int.toNat_natCast, Hlp'.out] at f1
                        cases f1
                        rw [Hpt.out] at f2
                        obtain rfl : q = q2 := by omega
                        rw [Hq?.out] at f3
                        cases f3
                        exact c7 f4))
                      clear c7
                      go_wp2_with fail
                      refine (Port_any _ g t ls' k _ (Hgr.out.below ((Below.refl _ _).alloc (Nat.le_refl _) _)) Hlp'.out).mono ?_
                      rintro e w3 ⟨rfl, hb3w⟩
                      rw [Hpt.out]
                      have d0 := keepA hb3w _ _ q0
                      have d1 := keepA hb3w _ _ q1
                      have d2 := keepA hb3w _ _ hcl'
                      obtain ⟨d3, d4⟩ := newA2 hb3w
                      have Hb3 := Lib.hid (belowA hb3w)
                      have hz3 : wr.heap.size < w3.heap.size := by have := hb3w.size; simp at this; omega
                      clear hb3w
                      have d5 := (Hb3.out.cell hb6).trans hx4
                      go_wp2
                      go_quiet (fail)
                      go_wp2
                      go_ret
                      exact ⟨ret_bool Hf.out.symm, below_drewN (Hbw.out.trans (Hb3.out.mono Hbw.out.size)) _⟩
                · obtain rfl : i = ls.length := by omega
                  have HE := Lib.hid hls
                  clear hls hbw
                  go_wp2
                  go_roundw
                  case rel =>
                    refine ⟨k + 1, by omega, by go_num, hbel, Lib.hid (fun v j hv => ?_)⟩
                    by_cases hvk : v < k
                    · exact hv3.out v j hvk
                    · obtain rfl : v = k := by omega
                      by_cases hj : j < ls.length
                      · exact hv3'.out j hj
                      · intro ls2 l2 f1 f2
                        rw [Hlp.out] at f1
                        cases f1
                        rw [List.getElem?_eq_none (by omega)] at f2
                        cases f2
                  case measure => simp [intOf]; omega
            · obtain rfl : k = g.ports.length := by omega
              have Ht := Lib.hid (show validB g = true from decide_eq_true (GoodG.of n1a n1b Hn2.out hv2.out (fun v i hv => hv3.out v i hv)))
              go_wp2
              go_ret
              exact ⟨ret_bool Ht.out.symm, Hbw.out⟩
    · have n2' : ((g.ids.length : Int) != (g.ports.length : Int)) = true := by simp; omega
      have Hf := Lib.hid (validB_false_1 (g := g) (fun h => n2 h.2.2))
      clear n2
      go_enter Try.func78, Try.ntmps78
      go_wp2_with (first | (go_at_call 80; refine (In_t _ _ _ _ (by omega) (by omega)).mono ?_; rintro e w' ⟨rfl, rfl⟩))
      go_ret
      exact ⟨ret_bool Hf.out.symm, (Below.refl _ _).alloc (Nat.le_refl _) _⟩
  · have Hf := Lib.hid (validB_false_1 (g := g) (fun h => n1 ⟨h.1, h.2.1⟩))
    have n1' : g.ports.length < 1 ∨ 24 < g.ports.length := by omega
    clear n1
    go_enter Try.func78, Try.ntmps78
    go_wp2_with (first | (go_at_call 80; refine (In_f _ _ _ _ (by omega)).mono ?_; rintro e w' ⟨rfl, rfl⟩))
    go_ret
    exact ⟨ret_bool Hf.out.symm, (Below.refl _ _).alloc (Nat.le_refl _) _⟩
end Go.Proofs.Ytlfojfndkcmfnaa
namespace Go.Proofs.Ytlfojfndkcmfnaa
open Go.RowKit

theorem take_eq_snoc {xs ys : List Int} {k : Nat} (h : xs.take k = ys.take k) (hx : k < xs.length) (hy : k < ys.length) (e : xs[k] = ys[k]) : xs.take (k + 1) = ys.take (k + 1) := by
  rw [List.take_succ_eq_append_getElem hx, List.take_succ_eq_append_getElem hy, h, e]

set_option maxHeartbeats 1000000 in
theorem Equal_any (a b : Value) (xs ys : List Int) (w : World) (ha : IntsAt w a xs) (hb : IntsAt w b ys) :
    Calls Try.prog 55 #[a, b] w fun e w' => e = .returned (.bool (decide (xs = ys))) ∧ ∃ n, w' = w.drewN n := by
  obtain ⟨A, c, rfl, hc, hc63⟩ := slAt_form ha
  obtain ⟨B, d, rfl, hd, hd63⟩ := slAt_form hb
  have Ha := Lib.hid ha
  have Hb := Lib.hid hb
  clear ha hb
  by_cases hl : xs.length = ys.length
  · have Hl := Lib.hid hl
    have hne : ((xs.length : Int) != (ys.length : Int)) = false := by simp [hl]
    clear hl
    go_enter Try.func55, Try.ntmps55
    go_wp2
    go_loopg [13] xs.length (fun q i wr => ∃ k n : Nat, q + k = xs.length ∧ i = .int .i64 k ∧ wr = w.drewN n ∧ Hid (xs.take k = ys.take k))
    case atStart => exact ⟨0, 0, by omega, rfl, rfl, Lib.hid (by simp)⟩
    case round =>
      obtain ⟨k, n, hk, rfl, rfl, htk⟩ := hrel
      by_cases hlt : k < xs.length
      · have hlt2 : k < ys.length := by rw [← Hl.out]; exact hlt
        obtain ⟨b1, o1, rfl, hb1, hc1, _⟩ := intsAt_at Ha.out hlt
        obtain ⟨b2, o2, rfl, hb2, hc2, _⟩ := intsAt_at Hb.out hlt2
        by_cases he : xs[k] = ys[k]
        · have he' : (xs[k] != ys[k]) = false := by simp [he]
          have Hn := Lib.hid (take_eq_snoc htk.out hlt hlt2 he)
          clear he
          go_wp2
          go_quiet (fail)
          go_wp2
          go_roundg (gk - 1)
          case measure => omega
          case rel => exact ⟨k + 1, _, by omega, by go_num, rfl, Hn⟩
        · have he' : (xs[k] != ys[k]) = true := by simp [he]
          have Hf := Lib.hid (show decide (xs = ys) = false by simp; intro h; subst h; exact he rfl)
          clear he
          go_wp2
          go_quiet (fail)
          go_wp2
          go_ret
          exact ⟨ret_bool Hf.out.symm, _, World.drewN_drewN _ _ _⟩
      · obtain rfl : k = xs.length := by omega
        have Ht := Lib.hid (show decide (xs = ys) = true by
          have := htk.out
          rw [List.take_length, Hl.out, List.take_length] at this
          simp [this])
        go_wp2
        go_ret
        exact ⟨ret_bool Ht.out.symm, n, rfl⟩
  · have hne : ((xs.length : Int) != (ys.length : Int)) = true := by simp; omega
    have Hf := Lib.hid (show decide (xs = ys) = false by simp; intro h; exact hl (by rw [h]))
    clear hl
    go_enter Try.func55, Try.ntmps55
    go_wp2
    go_ret
    exact ⟨ret_bool Hf.out.symm, 0, rfl⟩

/-- The first port whose link is accepted, or -1. -/
def firstP (acc : Int × Int → Bool) (ls : List (Int × Int)) : Int := match ls.findIdx? acc with | some i => i | none => -1
theorem firstP_hit (acc : Int × Int → Bool) (ls : List (Int × Int)) (k : Nat) (hk : k < ls.length) (h : acc ls[k] = true) (hn : (ls.take k).findIdx? acc = none) : firstP acc ls = k := by
  unfold firstP
  have : ls.findIdx? acc = some k := by
    rw [List.findIdx?_eq_some_iff_getElem]
    refine ⟨hk, h, fun j hj => ?_⟩
    rw [List.findIdx?_eq_none_iff] at hn
    simp [hn ls[j] (List.mem_take_iff_getElem.2 ⟨j, by omega, rfl⟩)]
  rw [this]
theorem firstP_none (acc : Int × Int → Bool) (ls : List (Int × Int)) (hn : (ls.take ls.length).findIdx? acc = none) : firstP acc ls = -1 := by
  rw [List.take_length] at hn
  unfold firstP
  rw [hn]
theorem first_snoc (acc : Int × Int → Bool) (ls : List (Int × Int)) (k : Nat) (hk : k < ls.length) (h : acc ls[k] = false) (hn : (ls.take k).findIdx? acc = none) : (ls.take (k + 1)).findIdx? acc = none := by
  rw [take_snoc ls k hk, List.findIdx?_append, hn]
  simp [h]

set_option maxHeartbeats 1000000 in
theorem FirstPort_any (gv : Value) (g : Gr) (v : Nat) (ls : List (Int × Int)) (x1 x2 : Value) (acc : Int × Int → Bool) (w : World) (hg : GrAt w gv g) (hv : g.ports[v]? = some ls)
    (hacc : ∀ l ∈ ls, ∀ W, Below w.heap.size w W → Calls Try.prog 77 #[.agg #[.int .i64 l.1, .int .i64 l.2], x1, x2] W fun e w' => e = .returned (.bool (acc l)) ∧ Below W.heap.size W w') :
    Calls Try.prog 53 #[gv, .int .i64 v, .func (.func 77) #[] #[x1, x2]] w fun e w' => e = .returned (.int .i64 (firstP acc ls)) ∧ Below w.heap.size w w' := by
  obtain ⟨i, p, rfl, _, A, c, rfl, hc1, hc2, hp⟩ := hg
  have hvlt : v < g.ports.length := (List.getElem?_eq_some_iff.1 hv).1
  obtain ⟨b, off, rfl, hb, hP⟩ := hp (by omega)
  obtain ⟨lv, hcell, hL0⟩ := hP v ls hv
  obtain ⟨A2, c2, rfl, hl1, hl2⟩ := slAt_form hL0
  simp only [Nat.mul_one] at hcell
  have HL := Lib.hid hL0
  have Hacc := Lib.hid hacc
  clear hL0 hP hv hp hacc
  go_enter Try.func53, Try.ntmps53
  go_wp2
  go_loopg [15] ls.length (fun q t wr => ∃ k : Nat, q + k = ls.length ∧ t = .int .i64 k ∧ Hid (Below w.heap.size w wr) ∧ Hid ((ls.take k).findIdx? acc = none))
  case atStart => exact ⟨0, by omega, rfl, Lib.hid ((Below.refl _ _).alloc (Nat.le_refl _) _), Lib.hid (by simp)⟩
  case round =>
    obtain ⟨k, hq, rfl, hbel, hnone⟩ := hrel
    by_cases hlt : k < ls.length
    · obtain ⟨A4, c4, e4, _, _, hE⟩ := HL.out.below Stable.link hbel.out
      cases e4
      obtain ⟨b3, off3, rfl, hb3, hE⟩ := hE (by omega)
      obtain ⟨⟨l1, wt⟩, hle⟩ : ∃ l, ls[k] = l := ⟨_, rfl⟩
      have hl? : ls[k]? = some (l1, wt) := by rw [List.getElem?_eq_getElem hlt, hle]
      obtain ⟨hx1, hx2, ⟨hr1, hr2⟩, ⟨hr3, hr4⟩⟩ := hE k _ hl?
      simp only at hx1 hx2 hr1 hr2 hr3 hr4
      have Hm := Lib.hid (List.mem_of_getElem? hl?)
      have Hle := Lib.hid hle
      clear hE hl? hle
      go_wp2_with fail
      refine (Hacc.out (l1, wt) Hm.out _ (hbel.out.alloc (hbel.out.size) _)).mono ?_
      rintro e w1 ⟨rfl, hb1⟩
      have Hb1 := Lib.hid (hbel.out.trans ((belowA hb1).mono hbel.out.size))
      clear hb1
      cases ha : acc (l1, wt) with
      | true =>
        have Hr := Lib.hid (firstP_hit acc ls k hlt (by rw [Hle.out, ha]) hnone.out)
        clear ha
        go_wp2_with fail
        go_ret
        exact ⟨ret_int Hr.out.symm, Hb1.out⟩
      | false =>
        have Hr := Lib.hid (first_snoc acc ls k hlt (by rw [Hle.out, ha]) hnone.out)
        clear ha
        go_wp2_with fail
        go_roundg (gk - 1)
        case measure => omega
        case rel => exact ⟨k + 1, by omega, by go_num, Hb1, Hr⟩
    · obtain rfl : k = ls.length := by omega
      have Hr := Lib.hid (firstP_none acc ls hnone.out)
      go_wp2
      go_ret
      exact ⟨ret_int Hr.out.symm, hbel.out⟩
end Go.Proofs.Ytlfojfndkcmfnaa
namespace Go.Proofs.Ytlfojfndkcmfnaa

/-- Where port y of node v leads, -1 if y is below 0. -/
def portOf (g : Gr) (v : Nat) (y : Int) : Int := if 0 ≤ y then ((g.ports.getD v []).getD y.toNat (0, 0)).1 else -1
def towardsP (g : Gr) (c : Conf) (x : Nat) : List Int := c.zipIdx.map (fun p => portOf g p.2 (p.1.getD x 0))
/-- Variable x of each state is a port of its node, or below 0. -/
def PortVar (g : Gr) (c : Conf) (x : Nat) : Prop := ∀ (v : Nat) s, c[v]? = some s → ∃ y, s[x]? = some y ∧ (0 ≤ y → y < degOf g v)

def towardP (D : List Int) (v : Nat) (l : Int × Int) : Bool := D.getD l.1.toNat 0 == D.getD v 0 - 1
def wayP (g : Gr) (D : List Int) (v : Nat) : Int := firstP (towardP D v) (g.ports.getD v [])
def rightB (g : Gr) (D : List Int) (v : Nat) (s : List Int) : Bool := decide (s = [D.getD v 0, wayP g D v])

theorem towardsP_length (g : Gr) (c : Conf) (x : Nat) : (towardsP g c x).length = c.length := by simp [towardsP]
theorem towardsP_get (g : Gr) (c : Conf) (x v : Nat) (s : List Int) (hs : c[v]? = some s) : (towardsP g c x)[v]? = some (portOf g v (s.getD x 0)) := by
  simp [towardsP, List.getElem?_zipIdx, hs]
end Go.Proofs.Ytlfojfndkcmfnaa
namespace Go.Proofs.Ytlfojfndkcmfnaa

def maxTo (ids : List Int) (k : Nat) : Int := (ids.take k).tail.foldl max (ids.headD 0)
def minTo (ids : List Int) (k : Nat) : Int := (ids.take k).tail.foldl min (ids.headD 0)
abbrev maxI (ids : List Int) : Int := maxTo ids ids.length
abbrev minI (ids : List Int) : Int := minTo ids ids.length
theorem tail_snoc {ids : List Int} {k : Nat} (h1 : 1 ≤ k) (hk : k < ids.length) : (ids.take (k + 1)).tail = (ids.take k).tail ++ [ids[k]] := by
  rw [List.take_succ_eq_append_getElem hk, List.tail_append_of_ne_nil]
  intro h
  have := congrArg List.length h
  rw [List.length_take, List.length_nil] at this
  omega
theorem maxTo_one (ids : List Int) : maxTo ids 1 = ids.headD 0 := by cases ids <;> simp [maxTo]
theorem minTo_one (ids : List Int) : minTo ids 1 = ids.headD 0 := by cases ids <;> simp [minTo]
theorem maxTo_snoc {ids : List Int} {k : Nat} (h1 : 1 ≤ k) (hk : k < ids.length) : maxTo ids (k + 1) = max (maxTo ids k) ids[k] := by
  unfold maxTo
  rw [tail_snoc h1 hk, List.foldl_append]
  rfl
theorem minTo_snoc {ids : List Int} {k : Nat} (h1 : 1 ≤ k) (hk : k < ids.length) : minTo ids (k + 1) = min (minTo ids k) ids[k] := by
  unfold minTo
  rw [tail_snoc h1 hk, List.foldl_append]
  rfl
theorem maxI_top {ids : List Int} (h0 : 0 < ids.length) (h : ∀ x ∈ ids, 0 ≤ x) : maxI ids = ids.foldl max 0 := by
  cases ids with
  | nil => simp at h0
  | cons x l =>
    have hx : max 0 x = x := Int.max_eq_right (h x (by simp))
    simp [maxI, maxTo, hx]

/-- Where the least number so far lies. -/
def leastTo (ids : List Int) : Nat → Nat
  | 0 => 0
  | k + 1 => if ids.getD k 0 < ids.getD (leastTo ids k) 0 then k else leastTo ids k
abbrev leastI (ids : List Int) : Nat := leastTo ids ids.length
theorem leastTo_one (ids : List Int) : leastTo ids 1 = 0 := by simp [leastTo]
theorem leastTo_inv (ids : List Int) : ∀ k, 1 ≤ k → k ≤ ids.length → leastTo ids k < k ∧ (∀ j, j < k → ids.getD (leastTo ids k) 0 ≤ ids.getD j 0) ∧ (∀ j, j < leastTo ids k → ids.getD (leastTo ids k) 0 < ids.getD j 0) := by
  intro k
  induction k with
  | zero => intro h; omega
  | succ k ih =>
    intro _ hk
    rcases Nat.eq_zero_or_pos k with rfl | hpos
    · rw [leastTo_one]
      refine ⟨by omega, fun j hj => ?_, fun j hj => absurd hj (by omega)⟩
      obtain rfl : j = 0 := by omega
      exact Int.le_refl _
    · obtain ⟨h1, h2, h3⟩ := ih hpos (by omega)
      unfold leastTo
      split
      · rename_i hlt
        refine ⟨by omega, fun j hj => ?_, fun j hj => ?_⟩
        · rcases Nat.lt_or_ge j k with q | q
          · have := h2 j q; omega
          · obtain rfl : j = k := by omega
            exact Int.le_refl _
        · have := h2 j hj; omega
      · rename_i hnl
        refine ⟨by omega, fun j hj => ?_, h3⟩
        rcases Nat.lt_or_ge j k with q | q
        · exact h2 j q
        · obtain rfl : j = k := by omega
          omega
theorem minTo_least (ids : List Int) : ∀ k, 1 ≤ k → k ≤ ids.length → minTo ids k = ids.getD (leastTo ids k) 0 := by
  intro k
  induction k with
  | zero => intro h; omega
  | succ k ih =>
    intro _ hk
    rcases Nat.eq_zero_or_pos k with rfl | hpos
    · rw [minTo_one, leastTo_one]
      cases ids <;> simp
    · rw [minTo_snoc hpos (by omega), ih hpos (by omega)]
      have e : ids[k] = ids.getD k 0 := by simp [List.getD, List.getElem?_eq_getElem (show k < ids.length by omega)]
      rw [e]
      show _ = ids.getD (if ids.getD k 0 < ids.getD (leastTo ids k) 0 then k else leastTo ids k) 0
      split <;> omega
/-- slices.Index. -/
def idxP (ids : List Int) (x : Int) : Int := match ids.findIdx? (fun y => x == y) with
  | some i => i
  | none => -1
theorem idxP_least {ids : List Int} (h0 : 0 < ids.length) : idxP ids (minI ids) = leastI ids := by
  have h1 : leastI ids < ids.length := (leastTo_inv ids ids.length h0 (Nat.le_refl _)).1
  have h3 : ∀ j, j < leastI ids → ids.getD (leastI ids) 0 < ids.getD j 0 := (leastTo_inv ids ids.length h0 (Nat.le_refl _)).2.2
  have hm : minI ids = ids.getD (leastI ids) 0 := minTo_least ids ids.length h0 (Nat.le_refl _)
  have : ids.findIdx? (fun y => minI ids == y) = some (leastI ids) := by
    rw [List.findIdx?_eq_some_iff_getElem]
    refine ⟨h1, ?_, fun j hj => ?_⟩
    · have e : ids[leastI ids] = ids.getD (leastI ids) 0 := by simp [List.getD, List.getElem?_eq_getElem h1]
      rw [e, ← hm]
      simp
    · have hjl : j < ids.length := by omega
      have e : ids[j] = ids.getD j 0 := by simp [List.getD, List.getElem?_eq_getElem hjl]
      have := h3 j hj
      rw [e, hm]
      intro q
      have q := eq_of_beq q
      omega
  unfold idxP
  rw [this]
theorem idxP_hit {ids : List Int} {x : Int} {k : Nat} (hk : k < ids.length) (h : x = ids[k]) (hn : (ids.take k).findIdx? (fun y => x == y) = none) : idxP ids x = k := by
  unfold idxP
  have : ids.findIdx? (fun y => x == y) = some k := by
    rw [List.findIdx?_eq_some_iff_getElem]
    refine ⟨hk, by simp [h], fun j hj => ?_⟩
    rw [List.findIdx?_eq_none_iff] at hn
    simp [hn ids[j] (List.mem_take_iff_getElem.2 ⟨j, by omega, rfl⟩)]
  rw [this]
theorem idxP_none {ids : List Int} {x : Int} (hn : (ids.take ids.length).findIdx? (fun y => x == y) = none) : idxP ids x = -1 := by
  rw [List.take_length] at hn
  unfold idxP
  rw [hn]
theorem idx_snoc {ids : List Int} {x : Int} {k : Nat} (hk : k < ids.length) (h : x ≠ ids[k]) (hn : (ids.take k).findIdx? (fun y => x == y) = none) : (ids.take (k + 1)).findIdx? (fun y => x == y) = none := by
  rw [List.take_succ_eq_append_getElem hk, List.findIdx?_append, hn]
  simp [h]
end Go.Proofs.Ytlfojfndkcmfnaa
