/- Lemmas, joined: GraphC SgD ScLd. -/
import Derived.Test.YtlfojfndkcmfnaaPkLe15
import Derived.Test.YtlfojfndkcmfnaaPkLe12
set_option linter.unusedSimpArgs false
set_option linter.unusedVariables false
namespace Go.Proofs.Ytlfojfndkcmfnaa
open Go.RowKit

theorem zero_seen : Try.zeroCells84 = Array.replicate 256 (.bool false) := by kernel_rfl

/-- Block g: which numbers have been seen. -/
def Seen (w : World) (g : Nat) (S : List Int) : Prop := ∃ cur, w.heap[g]? = some (.cells cur 84 (0, 0)) ∧ cur.size = 256 ∧ ∀ i : Nat, i < 256 → cur[i]? = some (.bool (decide ((i : Int) ∈ S)))

theorem Seen.cell {w : World} {g : Nat} {S : List Int} (h : Seen w g S) {i : Nat} (hi : i < 256) : w.cell? ⟨g, i, none⟩ = some (.bool (decide ((i : Int) ∈ S))) := by
  obtain ⟨cur, h1, h2, h3⟩ := h
  simp [World.cell?, h1, h3 i hi]
theorem Seen.frozen {w : World} {g : Nat} {S : List Int} (h : Seen w g S) (i : Nat) : w.frozen? ⟨g, i, none⟩ = false := by
  obtain ⟨cur, h1, h2, h3⟩ := h
  simp [World.frozen?, h1]
theorem Seen.set_ {w : World} {g : Nat} {S : List Int} (h : Seen w g S) {i : Nat} : Seen (w.setCell ⟨g, i, none⟩ (.bool true)) g (S ++ [(i : Int)]) := by
  obtain ⟨cur, h1, h2, h3⟩ := h
  refine ⟨cur.setIfInBounds i (.bool true), by simp [World.setCell, Array.getElem?_modify, h1], by simp [h2], fun j hj => ?_⟩
  rw [Array.getElem?_setIfInBounds]
  split
  · subst_vars
    rw [if_pos (by omega)]
    simp
  · rw [h3 j hj]
    congr 3
    simp
    omega

theorem Seen.start (w : World) : Seen (w.alloc (.cells Try.zeroCells84 84)) w.heap.size [] := by
  refine ⟨_, heap_alloc_new w _, by rw [zero_seen]; simp, fun i hi => ?_⟩
  rw [zero_seen]
  simp [hi]

def diffB (ids : List Int) : Bool := decide ((∀ x ∈ ids, 0 ≤ x ∧ x ≤ 255) ∧ ids.Nodup)
def DiffTo (ids : List Int) (k : Nat) : Prop := (∀ x ∈ ids.take k, 0 ≤ x ∧ x ≤ 255) ∧ (ids.take k).Nodup
theorem diff_snoc {ids : List Int} {k : Nat} (hk : k < ids.length) : DiffTo ids (k + 1) ↔ DiffTo ids k ∧ (0 ≤ ids[k] ∧ ids[k] ≤ 255) ∧ ids[k] ∉ ids.take k := by
  unfold DiffTo
  rw [take_snoc ids k hk, List.nodup_append]
  constructor
  · rintro ⟨h1, h2, _, h3⟩
    exact ⟨⟨fun x hx => h1 x (List.mem_append_left _ hx), h2⟩, h1 _ (List.mem_append_right _ (by simp)), fun hm => h3 _ hm _ (by simp) rfl⟩
  · rintro ⟨⟨h1, h2⟩, h3, h4⟩
    refine ⟨fun x hx => ?_, h2, by simp, fun a ha b hb e => ?_⟩
    · rcases List.mem_append.1 hx with hx | hx
      · exact h1 x hx
      · simp at hx; subst hx; exact h3
    · simp at hb; subst hb e; exact h4 ha
theorem diffB_false {ids : List Int} {k : Nat} (h : ¬ DiffTo ids k) : diffB ids = false := by
  unfold diffB
  rw [decide_eq_false_iff_not]
  exact fun hd => h ⟨fun x hx => hd.1 x (List.mem_of_mem_take hx), hd.2.sublist (List.take_sublist _ _)⟩
theorem diffB_true {ids : List Int} (h : DiffTo ids ids.length) : diffB ids = true := by
  unfold DiffTo at h
  rw [List.take_length] at h
  exact decide_eq_true h

set_option maxRecDepth 100000 in
set_option maxHeartbeats 1000000 in
theorem DifferentIDs_any (iv : Value) (ids : List Int) (w : World) (hi : IntsAt w iv ids) :
    Calls Try.prog 94 #[iv] w fun e w' => e = .returned (.bool (diffB ids)) ∧ Below w.heap.size w w' := by
  obtain ⟨A, c, rfl, hA1, hA2⟩ := slAt_form hi
  have Hi := Lib.hid hi
  clear hi
  go_enter Try.func94, Try.ntmps94
  go_wp2
  go_loopg [8] ids.length (fun q t wr => ∃ k : Nat, q + k = ids.length ∧ t = .int .i64 k ∧ Hid (Below w.heap.size w wr) ∧ Hid (Seen wr w.heap.size (ids.take k)) ∧ Hid (DiffTo ids k))
  case atStart => exact ⟨0, by omega, rfl, Lib.hid ((Below.refl _ _).alloc (Nat.le_refl _) _), Lib.hid (Seen.start w), Lib.hid ⟨by simp, by simp⟩⟩
  case round =>
    obtain ⟨k, hq, rfl, hbel, hseen, hok⟩ := hrel
    by_cases hlt : k < ids.length
    · obtain ⟨b, off, rfl, hb, hcid, hr⟩ := intsAt_at (Hi.out.below Stable.int hbel.out) hlt
      obtain ⟨x, hx⟩ : ∃ x, ids[k] = x := ⟨_, rfl⟩
      have Hsn := Lib.hid (diff_snoc hlt)
      rw [hx] at hcid hr Hsn
      obtain ⟨hr1, hr2⟩ := hr
      have Hbad := Lib.hid (fun h => diffB_false (ids := ids) (k := k + 1) h)
      have Hts := Lib.hid (take_snoc ids k hlt)
      rw [hx] at Hts
      clear hx
      by_cases c1 : 0 ≤ x ∧ x ≤ 255
      · obtain ⟨c1a, c1b⟩ := c1
        obtain ⟨n, rfl⟩ := Int.eq_ofNat_of_zero_le c1a
        have hcs := hseen.out.cell (i := n) (by omega)
        have hfs := hseen.out.frozen n
        by_cases c2 : (n : Int) ∈ ids.take k
        · rw [decide_eq_true c2] at hcs
          have Hf := Lib.hid (Hbad.out (fun h => (Hsn.out.1 h).2.2 c2))
          clear c2
          go_wp2
          go_ret
          exact ⟨ret_bool Hf.out.symm, hbel.out⟩
        · rw [decide_eq_false c2] at hcs
          have Hn := Lib.hid (Hsn.out.2 ⟨hok.out, ⟨by omega, by omega⟩, c2⟩)
          clear c2
          go_wp2
          go_roundg (gk - 1)
          case measure => omega
          case rel =>
            refine ⟨k + 1, by omega, by go_num, Lib.hid (hbel.out.setCell (Nat.le_refl _) _), Lib.hid ?_, Hn⟩
            rw [Hts.out]
            exact hseen.out.set_
      · have Hf := Lib.hid (Hbad.out (fun h => c1 (Hsn.out.1 h).2.1))
        by_cases c3 : x < 0
        · clear c1
          go_wp2
          go_ret
          exact ⟨ret_bool Hf.out.symm, hbel.out⟩
        · have c4 : 255 < x := by omega
          clear c1
          go_wp2
          go_ret
          exact ⟨ret_bool Hf.out.symm, hbel.out⟩
    · obtain rfl : k = ids.length := by omega
      have Ht := Lib.hid (diffB_true hok.out)
      go_wp2
      go_ret
      exact ⟨ret_bool Ht.out.symm, hbel.out⟩

theorem validB_eq (g : Gr) (h1 : 1 ≤ g.ids.length) (h2 : g.ids.length ≤ 24) (h3 : g.ports.length = g.ids.length) : validB g = (diffB g.ids && symB g.ports) := by
  unfold validB diffB symB
  rw [← Bool.decide_and]
  congr 1
  apply propext
  unfold GoodG SymOk
  constructor
  · rintro ⟨_, _, _, h4, h5, h6, h7⟩
    exact ⟨⟨h4, h5⟩, h6, h7⟩
  · rintro ⟨⟨h4, h5⟩, h6, h7⟩
    exact ⟨by omega, by omega, by omega, h4, h5, h6, h7⟩

set_option maxHeartbeats 1000000 in
theorem Valid_any (gv : Value) (g : Gr) (w : World) (hg : GrAt w gv g) :
    Calls Try.prog 73 #[gv] w fun e w' => e = .returned (.bool (validB g)) ∧ Below w.heap.size w w' := by
  obtain ⟨i, p, rfl, hi, hp⟩ := hg
  obtain ⟨A, c, rfl, hA1, hA2⟩ := slAt_form hi
  obtain ⟨A2, c2, rfl, hB1, hB2⟩ := slAt_form hp
  have Hi := Lib.hid hi
  have Hp := Lib.hid hp
  clear hi hp
  by_cases n1 : 1 ≤ g.ids.length
  · by_cases n2 : g.ids.length ≤ 24
    · by_cases n3 : g.ports.length = g.ids.length
      · have n3' : ((g.ports.length : Int) != (g.ids.length : Int)) = false := by simp [n3]
        have He := Lib.hid (validB_eq g n1 n2 n3)
        have n3a : g.ports.length ≤ 24 := by omega
        clear n3
        go_enter Try.func73, Try.ntmps73
        go_wp2_with fail
        refine (DifferentIDs_any _ g.ids _ (Hi.out.below Stable.int ((Below.refl _ _).alloc (Nat.le_refl _) _))).mono ?_
        rintro e w1 ⟨rfl, hb1⟩
        have Hb1 := Lib.hid (belowA hb1)
        obtain ⟨q0, q1⟩ := newA2 hb1
        clear hb1
        cases hd : diffB g.ids with
        | false =>
          have Hv := Lib.hid (show validB g = false by rw [He.out, hd]; rfl)
          go_wp2_with fail
          go_ret
          exact ⟨ret_bool Hv.out.symm, Hb1.out⟩
        | true =>
          have Hv := Lib.hid (show validB g = symB g.ports by rw [He.out, hd]; rfl)
          go_wp2_with fail
          refine (symmetric_any _ g.ports _ (Hp.out.below (Stable.sl Stable.link) Hb1.out) (by omega)).mono ?_
          rintro e w2 ⟨rfl, hb2⟩
          go_wp2_with fail
          go_ret
          exact ⟨ret_bool Hv.out.symm, Hb1.out.trans (hb2.mono Hb1.out.size)⟩
      · have n3' : ((g.ports.length : Int) != (g.ids.length : Int)) = true := by simp; omega
        have Hf := Lib.hid (validB_false_1 (g := g) (fun h => n3 h.2.2.symm))
        clear n3
        go_enter Try.func73, Try.ntmps73
        go_wp2
        go_ret
        exact ⟨ret_bool Hf.out.symm, (Below.refl _ _).alloc (Nat.le_refl _) _⟩
    · have Hf := Lib.hid (validB_false_1 (g := g) (fun h => n2 (by omega)))
      go_enter Try.func73, Try.ntmps73
      go_wp2
      go_ret
      exact ⟨ret_bool Hf.out.symm, (Below.refl _ _).alloc (Nat.le_refl _) _⟩
  · have Hf := Lib.hid (validB_false_1 (g := g) (fun h => n1 (by omega)))
    go_enter Try.func73, Try.ntmps73
    go_wp2
    go_ret
    exact ⟨ret_bool Hf.out.symm, (Below.refl _ _).alloc (Nat.le_refl _) _⟩
end Go.Proofs.Ytlfojfndkcmfnaa
namespace Go.Proofs.Ytlfojfndkcmfnaa
namespace Sh
open Go Ev Go.RowKit
set_option maxRecDepth 8000
theorem i64_small {x : Int} (h : -4611686018427387904 ≤ x ∧ x ≤ 4611686018427387904) : I64 x := by
  unfold I64; omega
theorem goodI {g : Gr} (hg : GoodG g) : GrI g := by
  obtain ⟨h1, h2, h3, h4, h5, h6, h7⟩ := hg
  refine ⟨fun x hx => i64_small (by have := h4 x hx; omega), fun ls hls l hl => ?_⟩
  obtain ⟨v, hv, rfl⟩ := List.getElem_of_mem hls
  obtain ⟨a1, a2, a3, a4, a5⟩ := (h6 ⟨v, hv⟩).1 l hl
  exact ⟨i64_small (by omega), i64_small (by omega)⟩
theorem GValid_ret {g : Gr} (hI : GrI g) : Returns Try.prog 73 [grV g] (.b (validB g)) := by
  refine ret_of ⟨_, _, Try.func73, rfl⟩ (fun _ => .b) (fun _ => .simple rfl) fun G m us hG hr φ M w us' hR hs hv => ?_
  obtain ⟨u, rfl, h1⟩ := rvl1 hr
  obtain ⟨u', rfl, h2⟩ := vrl_one hv
  exact Valid_any u' g w (gr_at hG h1 h2 hR hs hI)
end Sh
end Go.Proofs.Ytlfojfndkcmfnaa
namespace Go.Proofs.Ytlfojfndkcmfnaa
namespace Sh
open Go Ev
-- slices.Min[[]int,int]
def c_slices_Minintint_r0 : List SOper := [⟨.mv (.const (.int .i64 0)), some 2, none, 0⟩]
def c_slices_Minintint_r1 : List SOper := [⟨.mv (.tmp 0), some 5, none, 0⟩, ⟨.len (.tmp 5), some 6, none, 1⟩, ⟨.bin .lss (.tmp 6) (.const (.int .i64 1)), some 7, none, 3⟩]
def c_slices_Minintint_r2 : List SOper := [⟨.no, some 8, none, 0⟩, ⟨.no, none, none, 1⟩]
def c_slices_Minintint_r3 : List SOper := [⟨.mv (.tmp 0), some 9, none, 0⟩, ⟨.idx 1 (.tmp 9) (.const (.int .i64 0)), some 10, none, 1⟩, ⟨.load false 1 (.tmp 10), some 11, none, 3⟩, ⟨.mv (.tmp 11), some 3, none, 7⟩]
def c_slices_Minintint_r4 : List SOper := [⟨.mv (.const (.int .i64 1)), some 4, none, 0⟩]
def c_slices_Minintint_r5 : List SOper := [⟨.mv (.tmp 4), some 12, none, 0⟩, ⟨.mv (.tmp 0), some 13, none, 0⟩, ⟨.len (.tmp 13), some 14, none, 2⟩, ⟨.bin .lss (.tmp 12) (.tmp 14), some 15, none, 7⟩]
def c_slices_Minintint_r7 : List SOper := [⟨.mv (.tmp 3), some 18, none, 0⟩, ⟨.mv (.tmp 0), some 19, none, 0⟩, ⟨.mv (.tmp 4), some 20, none, 0⟩, ⟨.idx 1 (.tmp 19) (.tmp 20), some 21, none, 6⟩, ⟨.load false 1 (.tmp 21), some 22, none, 14⟩, ⟨.mm false (.tmp 18) (.tmp 22), some 23, none, 31⟩, ⟨.mv (.tmp 23), some 3, none, 63⟩]
def c_slices_Minintint_r6 : List SOper := [⟨.mv (.tmp 4), some 16, none, 0⟩, ⟨.bin .add (.tmp 16) (.const (.int .i64 1)), some 17, none, 1⟩, ⟨.mv (.tmp 17), some 4, none, 3⟩]
def c_slices_Minintint_r8 : List SOper := [⟨.mv (.tmp 3), some 24, none, 0⟩, ⟨.mv (.tmp 24), some 2, none, 1⟩]
def c_slices_Minintint : SC := (.seq (.reg false c_slices_Minintint_r0) (.seq (.seq (.reg false c_slices_Minintint_r1) (.cond (.tmp 7) (.reg false c_slices_Minintint_r2) .skip)) (.seq (.reg false c_slices_Minintint_r3) (.seq (.seq (.reg false c_slices_Minintint_r4) (.block 0 (.loop (.seq (.seq (.reg false c_slices_Minintint_r5) (.cond (.tmp 15) .skip (.exit 0))) (.seq (.block 1 (.reg false c_slices_Minintint_r7)) (.reg false c_slices_Minintint_r6)))))) (.seq (.reg false c_slices_Minintint_r8) .ret)))))
theorem c_slices_Minintint_cmp : (Try.f85.body.bind (cmp Try.prog Try.f85.ntmps)) = some c_slices_Minintint := by kernel_rfl
theorem c_slices_Minintint_ok (args : List SV) (Q : SV → Prop) (h : vc ⟨Ct Try.prog, Cm Try.prog, [], []⟩ c_slices_Minintint (retK [.t 2] Q) ⟨slots args 0, []⟩) : Ct Try.prog 85 args Q := fn_ok Try.func85 c_slices_Minintint_cmp (rs := [.t 2]) (by kernel_rfl) h
theorem c_slices_Minintint_okU (mu : List FuncId) (args : List SV) (Q : SV → Prop) (h : vc ⟨Ct Try.prog, Cm Try.prog, [], mu⟩ c_slices_Minintint (retK [.t 2] Q) ⟨slots args 0, []⟩) : Ct Try.prog 85 args Q := fn_ok Try.func85 c_slices_Minintint_cmp (rs := [.t 2]) (by kernel_rfl) h
theorem c_slices_Minintint_okM (pr : List Nm) (mu : List FuncId) (o : Own) (args : List SV) (Q : SV → Own → Prop) (h : vc ⟨Ct Try.prog, Cm Try.prog, pr, mu⟩ c_slices_Minintint (retM [.t 2] pr Q) ⟨slots args 0, o⟩) : Cm Try.prog 85 pr o args Q := fnM_ok Try.func85 c_slices_Minintint_cmp (rs := [.t 2]) (by kernel_rfl) h
-- leader.Fit
def c_leader_Fit_r0 : List SOper := [⟨.box 25 (.tmp 0), some 1, none, 0⟩, ⟨.mv (.const (.bool false)), some 2, none, 0⟩]
def c_leader_Fit_r1 : List SOper := [⟨.load true 2 (.tmp 1), some 3, none, 0⟩, ⟨.call (.func 38) [(.tmp 3)], some 4, none, 1⟩, ⟨.mv (.tmp 4), some 2, none, 3⟩]
def c_leader_Fit : SC := (.seq (.reg false c_leader_Fit_r0) (.seq (.reg false c_leader_Fit_r1) .ret))
theorem c_leader_Fit_cmp : (Try.f19.body.bind (cmp Try.prog Try.f19.ntmps)) = some c_leader_Fit := by kernel_rfl
theorem c_leader_Fit_ok (args : List SV) (Q : SV → Prop) (h : vc ⟨Ct Try.prog, Cm Try.prog, [], []⟩ c_leader_Fit (retK [.t 2] Q) ⟨slots args 0, []⟩) : Ct Try.prog 19 args Q := fn_ok Try.func19 c_leader_Fit_cmp (rs := [.t 2]) (by kernel_rfl) h
theorem c_leader_Fit_okU (mu : List FuncId) (args : List SV) (Q : SV → Prop) (h : vc ⟨Ct Try.prog, Cm Try.prog, [], mu⟩ c_leader_Fit (retK [.t 2] Q) ⟨slots args 0, []⟩) : Ct Try.prog 19 args Q := fn_ok Try.func19 c_leader_Fit_cmp (rs := [.t 2]) (by kernel_rfl) h
theorem c_leader_Fit_okM (pr : List Nm) (mu : List FuncId) (o : Own) (args : List SV) (Q : SV → Own → Prop) (h : vc ⟨Ct Try.prog, Cm Try.prog, pr, mu⟩ c_leader_Fit (retM [.t 2] pr Q) ⟨slots args 0, o⟩) : Cm Try.prog 19 pr o args Q := fnM_ok Try.func19 c_leader_Fit_cmp (rs := [.t 2]) (by kernel_rfl) h
-- leader.least
def c_leader_least_r0 : List SOper := [⟨.box 25 (.tmp 0), some 1, none, 0⟩, ⟨.mv (.const (.int .i64 0)), some 2, none, 0⟩]
def c_leader_least_r1 : List SOper := [⟨.faddr 0 1 (.tmp 1), some 3, none, 0⟩, ⟨.load false 1 (.tmp 3), some 4, none, 1⟩, ⟨.faddr 0 1 (.tmp 1), some 5, none, 0⟩, ⟨.load false 1 (.tmp 5), some 6, none, 4⟩, ⟨.call (.func 85) [(.tmp 6)], some 7, none, 12⟩, ⟨.call (.func 84) [(.tmp 4), (.tmp 7)], some 8, none, 31⟩, ⟨.mv (.tmp 8), some 2, none, 63⟩]
def c_leader_least : SC := (.seq (.reg false c_leader_least_r0) (.seq (.reg true c_leader_least_r1) .ret))
theorem c_leader_least_cmp : (Try.f52.body.bind (cmp Try.prog Try.f52.ntmps)) = some c_leader_least := by kernel_rfl
theorem c_leader_least_ok (args : List SV) (Q : SV → Prop) (h : vc ⟨Ct Try.prog, Cm Try.prog, [], []⟩ c_leader_least (retK [.t 2] Q) ⟨slots args 0, []⟩) : Ct Try.prog 52 args Q := fn_ok Try.func52 c_leader_least_cmp (rs := [.t 2]) (by kernel_rfl) h
theorem c_leader_least_okU (mu : List FuncId) (args : List SV) (Q : SV → Prop) (h : vc ⟨Ct Try.prog, Cm Try.prog, [], mu⟩ c_leader_least (retK [.t 2] Q) ⟨slots args 0, []⟩) : Ct Try.prog 52 args Q := fn_ok Try.func52 c_leader_least_cmp (rs := [.t 2]) (by kernel_rfl) h
theorem c_leader_least_okM (pr : List Nm) (mu : List FuncId) (o : Own) (args : List SV) (Q : SV → Own → Prop) (h : vc ⟨Ct Try.prog, Cm Try.prog, pr, mu⟩ c_leader_least (retM [.t 2] pr Q) ⟨slots args 0, o⟩) : Cm Try.prog 52 pr o args Q := fnM_ok Try.func52 c_leader_least_cmp (rs := [.t 2]) (by kernel_rfl) h
-- leader.Legit
def c_leader_Legit_r0 : List SOper := [⟨.box 25 (.tmp 0), some 2, none, 0⟩, ⟨.mv (.const (.bool false)), some 4, none, 0⟩]
def c_leader_Legit_r1 : List SOper := [⟨.load true 2 (.tmp 2), some 10, none, 0⟩, ⟨.call (.func 19) [(.tmp 10)], some 11, none, 1⟩, ⟨.un .not (.tmp 11), some 12, none, 3⟩, ⟨.mv (.tmp 12), some 13, none, 7⟩, ⟨.load true 2 (.tmp 2), some 14, some (13, false), 15⟩, ⟨.mv (.tmp 1), some 15, some (13, false), 15⟩, ⟨.faddr 0 1 (.tmp 2), some 16, some (13, false), 15⟩, ⟨.load false 1 (.tmp 16), some 17, some (13, false), 79⟩, ⟨.call (.func 51) [(.tmp 17)], some 18, some (13, false), 207⟩, ⟨.faddr 0 1 (.tmp 2), some 19, some (13, false), 15⟩, ⟨.load false 1 (.tmp 19), some 20, some (13, false), 527⟩, ⟨.len (.tmp 20), some 21, some (13, false), 1551⟩, ⟨.bin .sub (.tmp 21) (.const (.int .i64 1)), some 22, some (13, false), 3599⟩, ⟨.bslice 3 1 3 [.i .i64 0, .i .i64 0, .i .i64 0] [(0, 1, (.tmp 18)), (1, 1, (.tmp 22)), (2, 1, (.const (.int .i64 (-1))))], some 23, some (13, false), 8143⟩, ⟨.call (.func 50) [(.tmp 14), (.tmp 15), (.tmp 23)], some 24, some (13, false), 16383⟩, ⟨.un .not (.tmp 24), some 25, some (13, false), 32767⟩, ⟨.pick (.tmp 13) (.const (.bool true)) (.tmp 25), some 26, none, 65535⟩]
def c_leader_Legit_r2 : List SOper := [⟨.mv (.const (.bool false)), some 4, none, 0⟩]
def c_leader_Legit_r3 : List SOper := [⟨.load true 2 (.tmp 2), some 27, none, 0⟩, ⟨.call (.func 52) [(.tmp 27)], some 28, none, 1⟩, ⟨.mv (.tmp 28), some 5, none, 3⟩]
def c_leader_Legit_r4 : List SOper := [⟨.load true 2 (.tmp 2), some 29, none, 0⟩, ⟨.mv (.tmp 5), some 30, none, 0⟩, ⟨.call (.func 41) [(.tmp 29), (.tmp 30)], some 31, none, 3⟩, ⟨.alloc 22 1 [.a (.slice none 0 0)], some 6, none, 0⟩, ⟨.store 1 (.tmp 6) (.tmp 31), none, none, 15⟩]
def c_leader_Legit_r5 : List SOper := [⟨.mv (.tmp 1), some 32, none, 0⟩, ⟨.len (.tmp 32), some 33, none, 1⟩, ⟨.mv (.const (.int .i64 0)), some 34, none, 0⟩]
def c_leader_Legit_r6 : List SOper := [⟨.bin .lss (.tmp 34) (.tmp 33), some 35, none, 0⟩]
def c_leader_Legit_r7 : List SOper := [⟨.mv (.tmp 34), some 36, none, 0⟩, ⟨.idx 1 (.tmp 32) (.tmp 34), some 37, none, 0⟩, ⟨.load false 1 (.tmp 37), some 38, none, 2⟩, ⟨.alloc 3 1 [.i .i64 0], some 7, none, 0⟩, ⟨.store 1 (.tmp 7) (.tmp 36), none, none, 15⟩, ⟨.mv (.tmp 38), some 8, none, 31⟩]
def c_leader_Legit_r8 : List SOper := [⟨.load true 2 (.tmp 2), some 39, none, 0⟩, ⟨.load false 1 (.tmp 7), some 40, none, 0⟩, ⟨.mkfn 54 [] [(.tmp 6), (.tmp 7)], some 41, none, 0⟩, ⟨.call (.func 53) [(.tmp 39), (.tmp 40), (.tmp 41)], some 42, none, 7⟩, ⟨.mv (.tmp 42), some 9, none, 15⟩]
def c_leader_Legit_r9 : List SOper := [⟨.mv (.tmp 8), some 43, none, 0⟩, ⟨.faddr 0 1 (.tmp 2), some 44, none, 0⟩, ⟨.load false 1 (.tmp 44), some 45, none, 2⟩, ⟨.mv (.tmp 5), some 46, none, 0⟩, ⟨.idx 1 (.tmp 45) (.tmp 46), some 47, none, 14⟩, ⟨.load false 1 (.tmp 47), some 48, none, 30⟩, ⟨.load false 1 (.tmp 6), some 49, none, 0⟩, ⟨.load false 1 (.tmp 7), some 50, none, 0⟩, ⟨.idx 1 (.tmp 49) (.tmp 50), some 51, none, 192⟩, ⟨.load false 1 (.tmp 51), some 52, none, 448⟩, ⟨.mv (.tmp 9), some 53, none, 0⟩, ⟨.bslice 3 1 3 [.i .i64 0, .i .i64 0, .i .i64 0] [(0, 1, (.tmp 48)), (1, 1, (.tmp 52)), (2, 1, (.tmp 53))], some 54, none, 2046⟩, ⟨.call (.func 55) [(.tmp 43), (.tmp 54)], some 55, none, 4095⟩, ⟨.un .not (.tmp 55), some 56, none, 8191⟩]
def c_leader_Legit_r10 : List SOper := [⟨.mv (.const (.bool false)), some 4, none, 0⟩]
def c_leader_Legit_r11 : List SOper := [⟨.bin .add (.tmp 34) (.const (.int .i64 1)), some 57, none, 0⟩, ⟨.mv (.tmp 57), some 34, none, 1⟩]
def c_leader_Legit_r12 : List SOper := [⟨.mv (.const (.bool true)), some 4, none, 0⟩]
def c_leader_Legit : SC := (.seq (.reg false c_leader_Legit_r0) (.seq (.seq (.reg true c_leader_Legit_r1) (.cond (.tmp 26) (.seq (.reg false c_leader_Legit_r2) .ret) .skip)) (.seq (.reg false c_leader_Legit_r3) (.seq (.reg false c_leader_Legit_r4) (.seq (.seq (.reg false c_leader_Legit_r5) (.block 0 (.loop (.seq (.reg false c_leader_Legit_r6) (.seq (.cond (.tmp 35) .skip (.exit 0)) (.seq (.block 1 (.seq (.reg false c_leader_Legit_r7) (.seq (.reg false c_leader_Legit_r8) (.seq (.reg true c_leader_Legit_r9) (.cond (.tmp 56) (.seq (.reg false c_leader_Legit_r10) .ret) .skip))))) (.reg false c_leader_Legit_r11))))))) (.seq (.reg false c_leader_Legit_r12) .ret))))))
theorem c_leader_Legit_cmp : (Try.f21.body.bind (cmp Try.prog Try.f21.ntmps)) = some c_leader_Legit := by kernel_rfl
theorem c_leader_Legit_ok (args : List SV) (Q : SV → Prop) (h : vc ⟨Ct Try.prog, Cm Try.prog, [], []⟩ c_leader_Legit (retK [.t 4] Q) ⟨slots args 0, []⟩) : Ct Try.prog 21 args Q := fn_ok Try.func21 c_leader_Legit_cmp (rs := [.t 4]) (by kernel_rfl) h
theorem c_leader_Legit_okU (mu : List FuncId) (args : List SV) (Q : SV → Prop) (h : vc ⟨Ct Try.prog, Cm Try.prog, [], mu⟩ c_leader_Legit (retK [.t 4] Q) ⟨slots args 0, []⟩) : Ct Try.prog 21 args Q := fn_ok Try.func21 c_leader_Legit_cmp (rs := [.t 4]) (by kernel_rfl) h
theorem c_leader_Legit_okM (pr : List Nm) (mu : List FuncId) (o : Own) (args : List SV) (Q : SV → Own → Prop) (h : vc ⟨Ct Try.prog, Cm Try.prog, pr, mu⟩ c_leader_Legit (retM [.t 4] pr Q) ⟨slots args 0, o⟩) : Cm Try.prog 21 pr o args Q := fnM_ok Try.func21 c_leader_Legit_cmp (rs := [.t 4]) (by kernel_rfl) h
-- leader.Legit$1
def c_leader_Legit_1_r0 : List SOper := [⟨.box 54 (.tmp 0), some 3, none, 0⟩, ⟨.mv (.const (.bool false)), some 4, none, 0⟩]
def c_leader_Legit_1_r1 : List SOper := [⟨.load false 1 (.tmp 1), some 5, none, 0⟩, ⟨.faddr 0 1 (.tmp 3), some 6, none, 0⟩, ⟨.load false 1 (.tmp 6), some 7, none, 2⟩, ⟨.idx 1 (.tmp 5) (.tmp 7), some 8, none, 7⟩, ⟨.load false 1 (.tmp 8), some 9, none, 15⟩, ⟨.load false 1 (.tmp 1), some 10, none, 0⟩, ⟨.load false 1 (.tmp 2), some 11, none, 0⟩, ⟨.idx 1 (.tmp 10) (.tmp 11), some 12, none, 96⟩, ⟨.load false 1 (.tmp 12), some 13, none, 224⟩, ⟨.bin .sub (.tmp 13) (.const (.int .i64 1)), some 14, none, 480⟩, ⟨.bin .eql (.tmp 9) (.tmp 14), some 15, none, 1023⟩, ⟨.mv (.tmp 15), some 4, none, 2047⟩]
def c_leader_Legit_1 : SC := (.seq (.reg false c_leader_Legit_1_r0) (.seq (.reg true c_leader_Legit_1_r1) .ret))
theorem c_leader_Legit_1_cmp : (Try.f54.body.bind (cmp Try.prog Try.f54.ntmps)) = some c_leader_Legit_1 := by kernel_rfl
theorem c_leader_Legit_1_ok (args : List SV) (Q : SV → Prop) (h : vc ⟨Ct Try.prog, Cm Try.prog, [], []⟩ c_leader_Legit_1 (retK [.t 4] Q) ⟨slots args 0, []⟩) : Ct Try.prog 54 args Q := fn_ok Try.func54 c_leader_Legit_1_cmp (rs := [.t 4]) (by kernel_rfl) h
theorem c_leader_Legit_1_okU (mu : List FuncId) (args : List SV) (Q : SV → Prop) (h : vc ⟨Ct Try.prog, Cm Try.prog, [], mu⟩ c_leader_Legit_1 (retK [.t 4] Q) ⟨slots args 0, []⟩) : Ct Try.prog 54 args Q := fn_ok Try.func54 c_leader_Legit_1_cmp (rs := [.t 4]) (by kernel_rfl) h
theorem c_leader_Legit_1_okM (pr : List Nm) (mu : List FuncId) (o : Own) (args : List SV) (Q : SV → Own → Prop) (h : vc ⟨Ct Try.prog, Cm Try.prog, pr, mu⟩ c_leader_Legit_1 (retM [.t 4] pr Q) ⟨slots args 0, o⟩) : Cm Try.prog 54 pr o args Q := fnM_ok Try.func54 c_leader_Legit_1_cmp (rs := [.t 4]) (by kernel_rfl) h
-- leader.Claim
def c_leader_Claim_r0 : List SOper := [⟨.box 25 (.tmp 0), some 1, none, 0⟩, ⟨.alloc 31 1 [.i .i64 0, .b false, .b false, .i .i64 0, .i .i64 0], some 2, none, 0⟩]
def c_leader_Claim_r1 : List SOper := [⟨.load true 2 (.tmp 1), some 4, none, 0⟩, ⟨.call (.func 19) [(.tmp 4)], some 5, none, 1⟩, ⟨.un .not (.tmp 5), some 6, none, 3⟩]
def c_leader_Claim_r2 : List SOper := [⟨.build [.i .i64 0, .b false, .b false, .i .i64 0, .i .i64 0] [], some 7, none, 0⟩, ⟨.store 5 (.tmp 2) (.tmp 7), none, none, 1⟩]
def c_leader_Claim_r3 : List SOper := [⟨.faddr 0 1 (.tmp 1), some 8, none, 0⟩, ⟨.load false 1 (.tmp 8), some 9, none, 1⟩, ⟨.len (.tmp 9), some 10, none, 3⟩, ⟨.load true 2 (.tmp 1), some 11, none, 0⟩, ⟨.load true 2 (.tmp 1), some 12, none, 0⟩, ⟨.call (.func 52) [(.tmp 12)], some 13, none, 16⟩, ⟨.call (.func 46) [(.tmp 11), (.tmp 13)], some 14, none, 56⟩, ⟨.bin .add (.tmp 10) (.tmp 14), some 15, none, 127⟩, ⟨.mv (.tmp 15), some 3, none, 255⟩]
def c_leader_Claim_r4 : List SOper := [⟨.mv (.tmp 3), some 16, none, 0⟩, ⟨.build [.i .i64 0, .b false, .b false, .i .i64 0, .i .i64 0] [(0, 1, (.const (.int .i64 3))), (2, 1, (.const (.bool true))), (3, 1, (.tmp 16)), (4, 1, (.const (.int .i64 (-1))))], some 17, none, 1⟩, ⟨.store 5 (.tmp 2) (.tmp 17), none, none, 3⟩]
def c_leader_Claim : SC := (.seq (.reg false c_leader_Claim_r0) (.seq (.seq (.reg false c_leader_Claim_r1) (.cond (.tmp 6) (.seq (.reg false c_leader_Claim_r2) .ret) .skip)) (.seq (.reg true c_leader_Claim_r3) (.seq (.reg false c_leader_Claim_r4) .ret))))
theorem c_leader_Claim_cmp : (Try.f23.body.bind (cmp Try.prog Try.f23.ntmps)) = some c_leader_Claim := by kernel_rfl
theorem c_leader_Claim_ok (args : List SV) (Q : SV → Prop) (h : vc ⟨Ct Try.prog, Cm Try.prog, [], []⟩ c_leader_Claim (retK [.c 2 true 5] Q) ⟨slots args 0, []⟩) : Ct Try.prog 23 args Q := fn_ok Try.func23 c_leader_Claim_cmp (rs := [.c 2 true 5]) (by kernel_rfl) h
theorem c_leader_Claim_okU (mu : List FuncId) (args : List SV) (Q : SV → Prop) (h : vc ⟨Ct Try.prog, Cm Try.prog, [], mu⟩ c_leader_Claim (retK [.c 2 true 5] Q) ⟨slots args 0, []⟩) : Ct Try.prog 23 args Q := fn_ok Try.func23 c_leader_Claim_cmp (rs := [.c 2 true 5]) (by kernel_rfl) h
theorem c_leader_Claim_okM (pr : List Nm) (mu : List FuncId) (o : Own) (args : List SV) (Q : SV → Own → Prop) (h : vc ⟨Ct Try.prog, Cm Try.prog, pr, mu⟩ c_leader_Claim (retM [.c 2 true 5] pr Q) ⟨slots args 0, o⟩) : Cm Try.prog 23 pr o args Q := fnM_ok Try.func23 c_leader_Claim_cmp (rs := [.c 2 true 5]) (by kernel_rfl) h
-- leader.Leader
def c_leader_Leader_r0 : List SOper := [⟨.box 25 (.tmp 0), some 2, none, 0⟩, ⟨.mv (.const (.int .i64 0)), some 4, none, 0⟩]
def c_leader_Leader_r1 : List SOper := [⟨.load true 2 (.tmp 2), some 5, none, 0⟩, ⟨.mv (.tmp 1), some 6, none, 0⟩, ⟨.call (.func 21) [(.tmp 5), (.tmp 6)], some 7, none, 3⟩, ⟨.un .not (.tmp 7), some 8, none, 7⟩]
def c_leader_Leader_r2 : List SOper := [⟨.mv (.const (.int .i64 (-1))), some 4, none, 0⟩]
def c_leader_Leader_r3 : List SOper := [⟨.load true 2 (.tmp 2), some 9, none, 0⟩, ⟨.call (.func 52) [(.tmp 9)], some 10, none, 1⟩, ⟨.mv (.tmp 10), some 4, none, 3⟩]
def c_leader_Leader : SC := (.seq (.reg false c_leader_Leader_r0) (.seq (.seq (.reg false c_leader_Leader_r1) (.cond (.tmp 8) (.seq (.reg false c_leader_Leader_r2) .ret) .skip)) (.seq (.reg false c_leader_Leader_r3) .ret)))
theorem c_leader_Leader_cmp : (Try.f25.body.bind (cmp Try.prog Try.f25.ntmps)) = some c_leader_Leader := by kernel_rfl
theorem c_leader_Leader_ok (args : List SV) (Q : SV → Prop) (h : vc ⟨Ct Try.prog, Cm Try.prog, [], []⟩ c_leader_Leader (retK [.t 4] Q) ⟨slots args 0, []⟩) : Ct Try.prog 25 args Q := fn_ok Try.func25 c_leader_Leader_cmp (rs := [.t 4]) (by kernel_rfl) h
theorem c_leader_Leader_okU (mu : List FuncId) (args : List SV) (Q : SV → Prop) (h : vc ⟨Ct Try.prog, Cm Try.prog, [], mu⟩ c_leader_Leader (retK [.t 4] Q) ⟨slots args 0, []⟩) : Ct Try.prog 25 args Q := fn_ok Try.func25 c_leader_Leader_cmp (rs := [.t 4]) (by kernel_rfl) h
theorem c_leader_Leader_okM (pr : List Nm) (mu : List FuncId) (o : Own) (args : List SV) (Q : SV → Own → Prop) (h : vc ⟨Ct Try.prog, Cm Try.prog, pr, mu⟩ c_leader_Leader (retM [.t 4] pr Q) ⟨slots args 0, o⟩) : Cm Try.prog 25 pr o args Q := fnM_ok Try.func25 c_leader_Leader_cmp (rs := [.t 4]) (by kernel_rfl) h
-- selfstabref26.Vars
def c_selfstabref26_Vars_r0 : List SOper := [⟨.mv (.const (.slice none 0 0)), some 0, none, 0⟩]
def c_selfstabref26_Vars_r1 : List SOper := [⟨.call (.func 81) [(.const (.string (ByteArray.mk #[108, 101, 97, 100]))), (.const (.int .i64 0)), (.const (.int .i64 0)), (.const (.int .i64 1))], some 1, none, 0⟩, ⟨.call (.func 81) [(.const (.string (ByteArray.mk #[100]))), (.const (.int .i64 (-1))), (.const (.int .i64 1)), (.const (.int .i64 0))], some 2, none, 1⟩, ⟨.call (.func 82) [(.const (.string (ByteArray.mk #[112])))], some 3, none, 3⟩, ⟨.bslice 65 6 3 [.a (.string (ByteArray.mk #[])), .i .i64 0, .i .i64 0, .i .i64 0, .i .i64 0, .i .i64 0, .a (.string (ByteArray.mk #[])), .i .i64 0, .i .i64 0, .i .i64 0, .i .i64 0, .i .i64 0, .a (.string (ByteArray.mk #[])), .i .i64 0, .i .i64 0, .i .i64 0, .i .i64 0, .i .i64 0] [(0, 6, (.tmp 1)), (6, 6, (.tmp 2)), (12, 6, (.tmp 3))], some 4, none, 7⟩, ⟨.mv (.tmp 4), some 0, none, 15⟩]
def c_selfstabref26_Vars : SC := (.seq (.reg false c_selfstabref26_Vars_r0) (.seq (.reg false c_selfstabref26_Vars_r1) .ret))
theorem c_selfstabref26_Vars_cmp : (Try.f56.body.bind (cmp Try.prog Try.f56.ntmps)) = some c_selfstabref26_Vars := by kernel_rfl
theorem c_selfstabref26_Vars_ok (args : List SV) (Q : SV → Prop) (h : vc ⟨Ct Try.prog, Cm Try.prog, [], []⟩ c_selfstabref26_Vars (retK [.t 0] Q) ⟨slots args 0, []⟩) : Ct Try.prog 56 args Q := fn_ok Try.func56 c_selfstabref26_Vars_cmp (rs := [.t 0]) (by kernel_rfl) h
theorem c_selfstabref26_Vars_okU (mu : List FuncId) (args : List SV) (Q : SV → Prop) (h : vc ⟨Ct Try.prog, Cm Try.prog, [], mu⟩ c_selfstabref26_Vars (retK [.t 0] Q) ⟨slots args 0, []⟩) : Ct Try.prog 56 args Q := fn_ok Try.func56 c_selfstabref26_Vars_cmp (rs := [.t 0]) (by kernel_rfl) h
theorem c_selfstabref26_Vars_okM (pr : List Nm) (mu : List FuncId) (o : Own) (args : List SV) (Q : SV → Own → Prop) (h : vc ⟨Ct Try.prog, Cm Try.prog, pr, mu⟩ c_selfstabref26_Vars (retM [.t 0] pr Q) ⟨slots args 0, o⟩) : Cm Try.prog 56 pr o args Q := fnM_ok Try.func56 c_selfstabref26_Vars_cmp (rs := [.t 0]) (by kernel_rfl) h
-- selfstabref26.Fit
def c_selfstabref26_Fit_r0 : List SOper := [⟨.box 25 (.tmp 0), some 1, none, 0⟩, ⟨.mv (.const (.bool false)), some 2, none, 0⟩]
def c_selfstabref26_Fit_r1 : List SOper := [⟨.load true 2 (.tmp 1), some 3, none, 0⟩, ⟨.call (.func 39) [(.tmp 3)], some 4, none, 1⟩, ⟨.mv (.tmp 4), some 2, none, 3⟩]
def c_selfstabref26_Fit : SC := (.seq (.reg false c_selfstabref26_Fit_r0) (.seq (.reg false c_selfstabref26_Fit_r1) .ret))
theorem c_selfstabref26_Fit_cmp : (Try.f20.body.bind (cmp Try.prog Try.f20.ntmps)) = some c_selfstabref26_Fit := by kernel_rfl
theorem c_selfstabref26_Fit_ok (args : List SV) (Q : SV → Prop) (h : vc ⟨Ct Try.prog, Cm Try.prog, [], []⟩ c_selfstabref26_Fit (retK [.t 2] Q) ⟨slots args 0, []⟩) : Ct Try.prog 20 args Q := fn_ok Try.func20 c_selfstabref26_Fit_cmp (rs := [.t 2]) (by kernel_rfl) h
theorem c_selfstabref26_Fit_okU (mu : List FuncId) (args : List SV) (Q : SV → Prop) (h : vc ⟨Ct Try.prog, Cm Try.prog, [], mu⟩ c_selfstabref26_Fit (retK [.t 2] Q) ⟨slots args 0, []⟩) : Ct Try.prog 20 args Q := fn_ok Try.func20 c_selfstabref26_Fit_cmp (rs := [.t 2]) (by kernel_rfl) h
theorem c_selfstabref26_Fit_okM (pr : List Nm) (mu : List FuncId) (o : Own) (args : List SV) (Q : SV → Own → Prop) (h : vc ⟨Ct Try.prog, Cm Try.prog, pr, mu⟩ c_selfstabref26_Fit (retM [.t 2] pr Q) ⟨slots args 0, o⟩) : Cm Try.prog 20 pr o args Q := fnM_ok Try.func20 c_selfstabref26_Fit_cmp (rs := [.t 2]) (by kernel_rfl) h
-- selfstabref26.Least
def c_selfstabref26_Least_r0 : List SOper := [⟨.box 25 (.tmp 0), some 1, none, 0⟩, ⟨.mv (.const (.int .i64 0)), some 2, none, 0⟩]
def c_selfstabref26_Least_r1 : List SOper := [⟨.mv (.const (.int .i64 0)), some 3, none, 0⟩]
def c_selfstabref26_Least_r2 : List SOper := [⟨.mv (.const (.int .i64 1)), some 4, none, 0⟩]
def c_selfstabref26_Least_r3 : List SOper := [⟨.mv (.tmp 4), some 5, none, 0⟩, ⟨.faddr 0 1 (.tmp 1), some 6, none, 0⟩, ⟨.load false 1 (.tmp 6), some 7, none, 2⟩, ⟨.len (.tmp 7), some 8, none, 6⟩, ⟨.bin .lss (.tmp 5) (.tmp 8), some 9, none, 15⟩]
def c_selfstabref26_Least_r5 : List SOper := [⟨.faddr 0 1 (.tmp 1), some 12, none, 0⟩, ⟨.load false 1 (.tmp 12), some 13, none, 1⟩, ⟨.mv (.tmp 4), some 14, none, 0⟩, ⟨.idx 1 (.tmp 13) (.tmp 14), some 15, none, 7⟩, ⟨.load false 1 (.tmp 15), some 16, none, 15⟩, ⟨.faddr 0 1 (.tmp 1), some 17, none, 0⟩, ⟨.load false 1 (.tmp 17), some 18, none, 32⟩, ⟨.mv (.tmp 3), some 19, none, 0⟩, ⟨.idx 1 (.tmp 18) (.tmp 19), some 20, none, 224⟩, ⟨.load false 1 (.tmp 20), some 21, none, 480⟩, ⟨.bin .lss (.tmp 16) (.tmp 21), some 22, none, 1023⟩]
def c_selfstabref26_Least_r6 : List SOper := [⟨.mv (.tmp 4), some 23, none, 0⟩, ⟨.mv (.tmp 23), some 3, none, 1⟩]
def c_selfstabref26_Least_r4 : List SOper := [⟨.mv (.tmp 4), some 10, none, 0⟩, ⟨.bin .add (.tmp 10) (.const (.int .i64 1)), some 11, none, 1⟩, ⟨.mv (.tmp 11), some 4, none, 3⟩]
def c_selfstabref26_Least_r7 : List SOper := [⟨.mv (.tmp 3), some 24, none, 0⟩, ⟨.mv (.tmp 24), some 2, none, 1⟩]
def c_selfstabref26_Least : SC := (.seq (.reg false c_selfstabref26_Least_r0) (.seq (.reg false c_selfstabref26_Least_r1) (.seq (.seq (.reg false c_selfstabref26_Least_r2) (.block 0 (.loop (.seq (.seq (.reg false c_selfstabref26_Least_r3) (.cond (.tmp 9) .skip (.exit 0))) (.seq (.block 1 (.seq (.reg true c_selfstabref26_Least_r5) (.cond (.tmp 22) (.reg false c_selfstabref26_Least_r6) .skip))) (.reg false c_selfstabref26_Least_r4)))))) (.seq (.reg false c_selfstabref26_Least_r7) .ret))))
theorem c_selfstabref26_Least_cmp : (Try.f57.body.bind (cmp Try.prog Try.f57.ntmps)) = some c_selfstabref26_Least := by kernel_rfl
theorem c_selfstabref26_Least_ok (args : List SV) (Q : SV → Prop) (h : vc ⟨Ct Try.prog, Cm Try.prog, [], []⟩ c_selfstabref26_Least (retK [.t 2] Q) ⟨slots args 0, []⟩) : Ct Try.prog 57 args Q := fn_ok Try.func57 c_selfstabref26_Least_cmp (rs := [.t 2]) (by kernel_rfl) h
theorem c_selfstabref26_Least_okU (mu : List FuncId) (args : List SV) (Q : SV → Prop) (h : vc ⟨Ct Try.prog, Cm Try.prog, [], mu⟩ c_selfstabref26_Least (retK [.t 2] Q) ⟨slots args 0, []⟩) : Ct Try.prog 57 args Q := fn_ok Try.func57 c_selfstabref26_Least_cmp (rs := [.t 2]) (by kernel_rfl) h
theorem c_selfstabref26_Least_okM (pr : List Nm) (mu : List FuncId) (o : Own) (args : List SV) (Q : SV → Own → Prop) (h : vc ⟨Ct Try.prog, Cm Try.prog, pr, mu⟩ c_selfstabref26_Least (retM [.t 2] pr Q) ⟨slots args 0, o⟩) : Cm Try.prog 57 pr o args Q := fnM_ok Try.func57 c_selfstabref26_Least_cmp (rs := [.t 2]) (by kernel_rfl) h
-- selfstabref26.Legit
def c_selfstabref26_Legit_r0 : List SOper := [⟨.box 25 (.tmp 0), some 2, none, 0⟩, ⟨.mv (.const (.bool false)), some 4, none, 0⟩]
def c_selfstabref26_Legit_r1 : List SOper := [⟨.load true 2 (.tmp 2), some 7, none, 0⟩, ⟨.call (.func 20) [(.tmp 7)], some 8, none, 1⟩, ⟨.un .not (.tmp 8), some 9, none, 3⟩, ⟨.mv (.tmp 9), some 10, none, 7⟩, ⟨.load true 2 (.tmp 2), some 11, some (10, false), 15⟩, ⟨.mv (.tmp 1), some 12, some (10, false), 15⟩, ⟨.call (.func 56) [], some 13, some (10, false), 15⟩, ⟨.call (.func 43) [(.tmp 11), (.tmp 12), (.tmp 13)], some 14, some (10, false), 127⟩, ⟨.un .not (.tmp 14), some 15, some (10, false), 255⟩, ⟨.pick (.tmp 10) (.const (.bool true)) (.tmp 15), some 16, none, 511⟩]
def c_selfstabref26_Legit_r2 : List SOper := [⟨.mv (.const (.bool false)), some 4, none, 0⟩]
def c_selfstabref26_Legit_r3 : List SOper := [⟨.load true 2 (.tmp 2), some 17, none, 0⟩, ⟨.call (.func 57) [(.tmp 17)], some 18, none, 1⟩, ⟨.mv (.tmp 18), some 5, none, 3⟩]
def c_selfstabref26_Legit_r4 : List SOper := [⟨.mv (.const (.int .i64 0)), some 6, none, 0⟩]
def c_selfstabref26_Legit_r5 : List SOper := [⟨.mv (.tmp 6), some 19, none, 0⟩, ⟨.mv (.tmp 1), some 20, none, 0⟩, ⟨.len (.tmp 20), some 21, none, 2⟩, ⟨.bin .lss (.tmp 19) (.tmp 21), some 22, none, 7⟩]
def c_selfstabref26_Legit_r7 : List SOper := [⟨.mv (.tmp 1), some 25, none, 0⟩, ⟨.mv (.tmp 6), some 26, none, 0⟩, ⟨.idx 1 (.tmp 25) (.tmp 26), some 27, none, 3⟩, ⟨.load false 1 (.tmp 27), some 28, none, 7⟩, ⟨.idx 1 (.tmp 28) (.const (.int .i64 0)), some 29, none, 15⟩, ⟨.load false 1 (.tmp 29), some 30, none, 31⟩, ⟨.faddr 0 1 (.tmp 2), some 31, none, 0⟩, ⟨.load false 1 (.tmp 31), some 32, none, 64⟩, ⟨.mv (.tmp 5), some 33, none, 0⟩, ⟨.idx 1 (.tmp 32) (.tmp 33), some 34, none, 448⟩, ⟨.load false 1 (.tmp 34), some 35, none, 960⟩, ⟨.bin .neq (.tmp 30) (.tmp 35), some 36, none, 2047⟩]
def c_selfstabref26_Legit_r8 : List SOper := [⟨.mv (.const (.bool false)), some 4, none, 0⟩]
def c_selfstabref26_Legit_r6 : List SOper := [⟨.mv (.tmp 6), some 23, none, 0⟩, ⟨.bin .add (.tmp 23) (.const (.int .i64 1)), some 24, none, 1⟩, ⟨.mv (.tmp 24), some 6, none, 3⟩]
def c_selfstabref26_Legit_r9 : List SOper := [⟨.load true 2 (.tmp 2), some 37, none, 0⟩, ⟨.mv (.tmp 1), some 38, none, 0⟩, ⟨.mv (.tmp 5), some 39, none, 0⟩, ⟨.call (.func 45) [(.tmp 37), (.tmp 38), (.tmp 39), (.const (.int .i64 1)), (.const (.int .i64 2))], some 40, none, 7⟩, ⟨.mv (.tmp 40), some 4, none, 15⟩]
def c_selfstabref26_Legit : SC := (.seq (.reg false c_selfstabref26_Legit_r0) (.seq (.seq (.reg true c_selfstabref26_Legit_r1) (.cond (.tmp 16) (.seq (.reg false c_selfstabref26_Legit_r2) .ret) .skip)) (.seq (.reg false c_selfstabref26_Legit_r3) (.seq (.seq (.reg false c_selfstabref26_Legit_r4) (.block 0 (.loop (.seq (.seq (.reg false c_selfstabref26_Legit_r5) (.cond (.tmp 22) .skip (.exit 0))) (.seq (.block 1 (.seq (.reg true c_selfstabref26_Legit_r7) (.cond (.tmp 36) (.seq (.reg false c_selfstabref26_Legit_r8) .ret) .skip))) (.reg false c_selfstabref26_Legit_r6)))))) (.seq (.reg false c_selfstabref26_Legit_r9) .ret)))))
theorem c_selfstabref26_Legit_cmp : (Try.f22.body.bind (cmp Try.prog Try.f22.ntmps)) = some c_selfstabref26_Legit := by kernel_rfl
theorem c_selfstabref26_Legit_ok (args : List SV) (Q : SV → Prop) (h : vc ⟨Ct Try.prog, Cm Try.prog, [], []⟩ c_selfstabref26_Legit (retK [.t 4] Q) ⟨slots args 0, []⟩) : Ct Try.prog 22 args Q := fn_ok Try.func22 c_selfstabref26_Legit_cmp (rs := [.t 4]) (by kernel_rfl) h
theorem c_selfstabref26_Legit_okU (mu : List FuncId) (args : List SV) (Q : SV → Prop) (h : vc ⟨Ct Try.prog, Cm Try.prog, [], mu⟩ c_selfstabref26_Legit (retK [.t 4] Q) ⟨slots args 0, []⟩) : Ct Try.prog 22 args Q := fn_ok Try.func22 c_selfstabref26_Legit_cmp (rs := [.t 4]) (by kernel_rfl) h
theorem c_selfstabref26_Legit_okM (pr : List Nm) (mu : List FuncId) (o : Own) (args : List SV) (Q : SV → Own → Prop) (h : vc ⟨Ct Try.prog, Cm Try.prog, pr, mu⟩ c_selfstabref26_Legit (retM [.t 4] pr Q) ⟨slots args 0, o⟩) : Cm Try.prog 22 pr o args Q := fnM_ok Try.func22 c_selfstabref26_Legit_cmp (rs := [.t 4]) (by kernel_rfl) h
-- selfstabref26.Claim
def c_selfstabref26_Claim_r0 : List SOper := [⟨.box 25 (.tmp 0), some 1, none, 0⟩, ⟨.alloc 31 1 [.i .i64 0, .b false, .b false, .i .i64 0, .i .i64 0], some 2, none, 0⟩]
def c_selfstabref26_Claim_r1 : List SOper := [⟨.load true 2 (.tmp 1), some 3, none, 0⟩, ⟨.call (.func 20) [(.tmp 3)], some 4, none, 1⟩, ⟨.un .not (.tmp 4), some 5, none, 3⟩]
def c_selfstabref26_Claim_r2 : List SOper := [⟨.build [.i .i64 0, .b false, .b false, .i .i64 0, .i .i64 0] [], some 6, none, 0⟩, ⟨.store 5 (.tmp 2) (.tmp 6), none, none, 1⟩]
def c_selfstabref26_Claim_r3 : List SOper := [⟨.faddr 1 1 (.tmp 1), some 7, none, 0⟩, ⟨.load false 1 (.tmp 7), some 8, none, 1⟩, ⟨.len (.tmp 8), some 9, none, 3⟩, ⟨.load true 2 (.tmp 1), some 10, none, 0⟩, ⟨.load true 2 (.tmp 1), some 11, none, 0⟩, ⟨.call (.func 57) [(.tmp 11)], some 12, none, 16⟩, ⟨.call (.func 47) [(.tmp 10), (.tmp 12)], some 13, none, 56⟩, ⟨.bin .add (.tmp 9) (.tmp 13), some 14, none, 127⟩, ⟨.build [.i .i64 0, .b false, .b false, .i .i64 0, .i .i64 0] [(0, 1, (.const (.int .i64 3))), (2, 1, (.const (.bool true))), (3, 1, (.tmp 14)), (4, 1, (.const (.int .i64 (-1))))], some 15, none, 255⟩, ⟨.store 5 (.tmp 2) (.tmp 15), none, none, 511⟩]
def c_selfstabref26_Claim : SC := (.seq (.reg false c_selfstabref26_Claim_r0) (.seq (.seq (.reg false c_selfstabref26_Claim_r1) (.cond (.tmp 5) (.seq (.reg false c_selfstabref26_Claim_r2) .ret) .skip)) (.seq (.reg true c_selfstabref26_Claim_r3) .ret)))
theorem c_selfstabref26_Claim_cmp : (Try.f24.body.bind (cmp Try.prog Try.f24.ntmps)) = some c_selfstabref26_Claim := by kernel_rfl
theorem c_selfstabref26_Claim_ok (args : List SV) (Q : SV → Prop) (h : vc ⟨Ct Try.prog, Cm Try.prog, [], []⟩ c_selfstabref26_Claim (retK [.c 2 true 5] Q) ⟨slots args 0, []⟩) : Ct Try.prog 24 args Q := fn_ok Try.func24 c_selfstabref26_Claim_cmp (rs := [.c 2 true 5]) (by kernel_rfl) h
theorem c_selfstabref26_Claim_okU (mu : List FuncId) (args : List SV) (Q : SV → Prop) (h : vc ⟨Ct Try.prog, Cm Try.prog, [], mu⟩ c_selfstabref26_Claim (retK [.c 2 true 5] Q) ⟨slots args 0, []⟩) : Ct Try.prog 24 args Q := fn_ok Try.func24 c_selfstabref26_Claim_cmp (rs := [.c 2 true 5]) (by kernel_rfl) h
theorem c_selfstabref26_Claim_okM (pr : List Nm) (mu : List FuncId) (o : Own) (args : List SV) (Q : SV → Own → Prop) (h : vc ⟨Ct Try.prog, Cm Try.prog, pr, mu⟩ c_selfstabref26_Claim (retM [.c 2 true 5] pr Q) ⟨slots args 0, o⟩) : Cm Try.prog 24 pr o args Q := fnM_ok Try.func24 c_selfstabref26_Claim_cmp (rs := [.c 2 true 5]) (by kernel_rfl) h
-- selfstabref26.Leader
def c_selfstabref26_Leader_r0 : List SOper := [⟨.box 25 (.tmp 0), some 2, none, 0⟩, ⟨.mv (.const (.int .i64 0)), some 4, none, 0⟩]
def c_selfstabref26_Leader_r1 : List SOper := [⟨.load true 2 (.tmp 2), some 5, none, 0⟩, ⟨.mv (.tmp 1), some 6, none, 0⟩, ⟨.call (.func 22) [(.tmp 5), (.tmp 6)], some 7, none, 3⟩, ⟨.un .not (.tmp 7), some 8, none, 7⟩]
def c_selfstabref26_Leader_r2 : List SOper := [⟨.mv (.const (.int .i64 (-1))), some 4, none, 0⟩]
def c_selfstabref26_Leader_r3 : List SOper := [⟨.load true 2 (.tmp 2), some 9, none, 0⟩, ⟨.call (.func 57) [(.tmp 9)], some 10, none, 1⟩, ⟨.mv (.tmp 10), some 4, none, 3⟩]
def c_selfstabref26_Leader : SC := (.seq (.reg false c_selfstabref26_Leader_r0) (.seq (.seq (.reg false c_selfstabref26_Leader_r1) (.cond (.tmp 8) (.seq (.reg false c_selfstabref26_Leader_r2) .ret) .skip)) (.seq (.reg false c_selfstabref26_Leader_r3) .ret)))
theorem c_selfstabref26_Leader_cmp : (Try.f26.body.bind (cmp Try.prog Try.f26.ntmps)) = some c_selfstabref26_Leader := by kernel_rfl
theorem c_selfstabref26_Leader_ok (args : List SV) (Q : SV → Prop) (h : vc ⟨Ct Try.prog, Cm Try.prog, [], []⟩ c_selfstabref26_Leader (retK [.t 4] Q) ⟨slots args 0, []⟩) : Ct Try.prog 26 args Q := fn_ok Try.func26 c_selfstabref26_Leader_cmp (rs := [.t 4]) (by kernel_rfl) h
theorem c_selfstabref26_Leader_okU (mu : List FuncId) (args : List SV) (Q : SV → Prop) (h : vc ⟨Ct Try.prog, Cm Try.prog, [], mu⟩ c_selfstabref26_Leader (retK [.t 4] Q) ⟨slots args 0, []⟩) : Ct Try.prog 26 args Q := fn_ok Try.func26 c_selfstabref26_Leader_cmp (rs := [.t 4]) (by kernel_rfl) h
theorem c_selfstabref26_Leader_okM (pr : List Nm) (mu : List FuncId) (o : Own) (args : List SV) (Q : SV → Own → Prop) (h : vc ⟨Ct Try.prog, Cm Try.prog, pr, mu⟩ c_selfstabref26_Leader (retM [.t 4] pr Q) ⟨slots args 0, o⟩) : Cm Try.prog 26 pr o args Q := fnM_ok Try.func26 c_selfstabref26_Leader_cmp (rs := [.t 4]) (by kernel_rfl) h
-- selfstablaw26.large
def c_selfstablaw26_large_r0 : List SOper := [⟨.box 25 (.tmp 0), some 2, none, 0⟩, ⟨.mv (.const (.bool false)), some 4, none, 0⟩]
def c_selfstablaw26_large_r1 : List SOper := [⟨.faddr 1 1 (.tmp 2), some 5, none, 0⟩, ⟨.load false 1 (.tmp 5), some 6, none, 1⟩, ⟨.len (.tmp 6), some 7, none, 3⟩, ⟨.bin .gtr (.tmp 7) (.const (.int .i64 60)), some 8, none, 7⟩, ⟨.mv (.tmp 8), some 9, none, 15⟩, ⟨.faddr 0 1 (.tmp 2), some 10, some (9, false), 31⟩, ⟨.load false 1 (.tmp 10), some 11, some (9, false), 63⟩, ⟨.len (.tmp 11), some 12, some (9, false), 127⟩, ⟨.bin .gtr (.tmp 12) (.const (.int .i64 60)), some 13, some (9, false), 255⟩, ⟨.pick (.tmp 9) (.const (.bool true)) (.tmp 13), some 14, none, 511⟩, ⟨.mv (.tmp 14), some 15, none, 1023⟩, ⟨.mv (.tmp 1), some 16, some (15, false), 2047⟩, ⟨.len (.tmp 16), some 17, some (15, false), 4095⟩, ⟨.bin .gtr (.tmp 17) (.const (.int .i64 60)), some 18, some (15, false), 8191⟩, ⟨.pick (.tmp 15) (.const (.bool true)) (.tmp 18), some 19, none, 16383⟩, ⟨.mv (.tmp 19), some 4, none, 32767⟩]
def c_selfstablaw26_large : SC := (.seq (.reg false c_selfstablaw26_large_r0) (.seq (.reg false c_selfstablaw26_large_r1) .ret))
theorem c_selfstablaw26_large_cmp : (Try.f17.body.bind (cmp Try.prog Try.f17.ntmps)) = some c_selfstablaw26_large := by kernel_rfl
theorem c_selfstablaw26_large_ok (args : List SV) (Q : SV → Prop) (h : vc ⟨Ct Try.prog, Cm Try.prog, [], []⟩ c_selfstablaw26_large (retK [.t 4] Q) ⟨slots args 0, []⟩) : Ct Try.prog 17 args Q := fn_ok Try.func17 c_selfstablaw26_large_cmp (rs := [.t 4]) (by kernel_rfl) h
theorem c_selfstablaw26_large_okU (mu : List FuncId) (args : List SV) (Q : SV → Prop) (h : vc ⟨Ct Try.prog, Cm Try.prog, [], mu⟩ c_selfstablaw26_large (retK [.t 4] Q) ⟨slots args 0, []⟩) : Ct Try.prog 17 args Q := fn_ok Try.func17 c_selfstablaw26_large_cmp (rs := [.t 4]) (by kernel_rfl) h
theorem c_selfstablaw26_large_okM (pr : List Nm) (mu : List FuncId) (o : Own) (args : List SV) (Q : SV → Own → Prop) (h : vc ⟨Ct Try.prog, Cm Try.prog, pr, mu⟩ c_selfstablaw26_large (retM [.t 4] pr Q) ⟨slots args 0, o⟩) : Cm Try.prog 17 pr o args Q := fnM_ok Try.func17 c_selfstablaw26_large_cmp (rs := [.t 4]) (by kernel_rfl) h
-- selfstablaw26.known
def c_selfstablaw26_known_r0 : List SOper := [⟨.mv (.const (.bool false)), some 0, none, 0⟩]
def c_selfstablaw26_known_r1 : List SOper := [⟨.bslice 3 1 2 [.i .i64 0, .i .i64 0] [(0, 1, (.const (.int .i64 0))), (1, 1, (.const (.int .i64 1)))], some 3, none, 0⟩, ⟨.bslice 3 1 3 [.i .i64 0, .i .i64 0, .i .i64 0] [(0, 1, (.const (.int .i64 5))), (1, 1, (.const (.int .i64 9))), (2, 1, (.const (.int .i64 7)))], some 4, none, 0⟩, ⟨.build [.i .i64 0, .a (.slice none 0 0), .a (.slice none 0 0), .a (.slice none 0 0), .b false, .b false] [(0, 1, (.const (.int .i64 3))), (1, 1, (.tmp 3)), (3, 1, (.tmp 4))], some 5, none, 3⟩, ⟨.call (.func 37) [(.tmp 5), (.const (.int .i64 3))], some 6, none, 7⟩, ⟨.alloc 25 1 [.a (.slice none 0 0), .a (.slice none 0 0)], some 1, none, 0⟩, ⟨.store 2 (.tmp 1) (.tmp 6), none, none, 31⟩]
def c_selfstablaw26_known_r2 : List SOper := [⟨.bslice 3 1 3 [.i .i64 0, .i .i64 0, .i .i64 0] [(0, 1, (.const (.int .i64 5))), (1, 1, (.const (.int .i64 0))), (2, 1, (.const (.int .i64 (-1))))], some 7, none, 0⟩, ⟨.bslice 3 1 3 [.i .i64 0, .i .i64 0, .i .i64 0] [(0, 1, (.const (.int .i64 5))), (1, 1, (.const (.int .i64 1))), (2, 1, (.const (.int .i64 0)))], some 8, none, 0⟩, ⟨.bslice 3 1 3 [.i .i64 0, .i .i64 0, .i .i64 0] [(0, 1, (.const (.int .i64 5))), (1, 1, (.const (.int .i64 2))), (2, 1, (.const (.int .i64 0)))], some 9, none, 0⟩, ⟨.bslice 22 1 3 [.a (.slice none 0 0), .a (.slice none 0 0), .a (.slice none 0 0)] [(0, 1, (.tmp 7)), (1, 1, (.tmp 8)), (2, 1, (.tmp 9))], some 10, none, 7⟩, ⟨.mv (.tmp 10), some 2, none, 15⟩]
def c_selfstablaw26_known_r3 : List SOper := [⟨.load true 2 (.tmp 1), some 11, none, 0⟩, ⟨.mv (.tmp 2), some 12, none, 0⟩, ⟨.call (.func 21) [(.tmp 11), (.tmp 12)], some 13, none, 3⟩, ⟨.mv (.tmp 13), some 14, none, 7⟩, ⟨.load true 2 (.tmp 1), some 15, some (14, true), 15⟩, ⟨.mv (.tmp 2), some 16, some (14, true), 15⟩, ⟨.call (.func 25) [(.tmp 15), (.tmp 16)], some 17, some (14, true), 63⟩, ⟨.bin .eql (.tmp 17) (.const (.int .i64 0)), some 18, some (14, true), 127⟩, ⟨.pick (.tmp 14) (.tmp 18) (.const (.bool false)), some 19, none, 255⟩, ⟨.mv (.tmp 19), some 20, none, 511⟩, ⟨.load true 2 (.tmp 1), some 21, some (20, true), 1023⟩, ⟨.bslice 3 1 3 [.i .i64 0, .i .i64 0, .i .i64 0] [(0, 1, (.const (.int .i64 5))), (1, 1, (.const (.int .i64 0))), (2, 1, (.const (.int .i64 (-1))))], some 22, some (20, true), 1023⟩, ⟨.bslice 3 1 3 [.i .i64 0, .i .i64 0, .i .i64 0] [(0, 1, (.const (.int .i64 5))), (1, 1, (.const (.int .i64 1))), (2, 1, (.const (.int .i64 1)))], some 23, some (20, true), 1023⟩, ⟨.bslice 3 1 3 [.i .i64 0, .i .i64 0, .i .i64 0] [(0, 1, (.const (.int .i64 5))), (1, 1, (.const (.int .i64 2))), (2, 1, (.const (.int .i64 0)))], some 24, some (20, true), 1023⟩, ⟨.bslice 22 1 3 [.a (.slice none 0 0), .a (.slice none 0 0), .a (.slice none 0 0)] [(0, 1, (.tmp 22)), (1, 1, (.tmp 23)), (2, 1, (.tmp 24))], some 25, some (20, true), 15359⟩, ⟨.call (.func 25) [(.tmp 21), (.tmp 25)], some 26, some (20, true), 32767⟩, ⟨.bin .eql (.tmp 26) (.const (.int .i64 (-1))), some 27, some (20, true), 65535⟩, ⟨.pick (.tmp 20) (.tmp 27) (.const (.bool false)), some 28, none, 131071⟩, ⟨.mv (.tmp 28), some 29, none, 262143⟩, ⟨.load true 2 (.tmp 1), some 30, some (29, true), 524287⟩, ⟨.call (.func 23) [(.tmp 30)], some 31, some (29, true), 1048575⟩, ⟨.field false 3 1 (.tmp 31), some 32, some (29, true), 2097151⟩, ⟨.bin .eql (.tmp 32) (.const (.int .i64 5)), some 33, some (29, true), 4194303⟩, ⟨.pick (.tmp 29) (.tmp 33) (.const (.bool false)), some 34, none, 8388607⟩, ⟨.mv (.tmp 34), some 0, none, 16777215⟩]
def c_selfstablaw26_known : SC := (.seq (.reg false c_selfstablaw26_known_r0) (.seq (.reg false c_selfstablaw26_known_r1) (.seq (.reg false c_selfstablaw26_known_r2) (.seq (.reg false c_selfstablaw26_known_r3) .ret))))
theorem c_selfstablaw26_known_cmp : (Try.f18.body.bind (cmp Try.prog Try.f18.ntmps)) = some c_selfstablaw26_known := by kernel_rfl
theorem c_selfstablaw26_known_ok (args : List SV) (Q : SV → Prop) (h : vc ⟨Ct Try.prog, Cm Try.prog, [], []⟩ c_selfstablaw26_known (retK [.t 0] Q) ⟨slots args 0, []⟩) : Ct Try.prog 18 args Q := fn_ok Try.func18 c_selfstablaw26_known_cmp (rs := [.t 0]) (by kernel_rfl) h
theorem c_selfstablaw26_known_okU (mu : List FuncId) (args : List SV) (Q : SV → Prop) (h : vc ⟨Ct Try.prog, Cm Try.prog, [], mu⟩ c_selfstablaw26_known (retK [.t 0] Q) ⟨slots args 0, []⟩) : Ct Try.prog 18 args Q := fn_ok Try.func18 c_selfstablaw26_known_cmp (rs := [.t 0]) (by kernel_rfl) h
theorem c_selfstablaw26_known_okM (pr : List Nm) (mu : List FuncId) (o : Own) (args : List SV) (Q : SV → Own → Prop) (h : vc ⟨Ct Try.prog, Cm Try.prog, pr, mu⟩ c_selfstablaw26_known (retM [.t 0] pr Q) ⟨slots args 0, o⟩) : Cm Try.prog 18 pr o args Q := fnM_ok Try.func18 c_selfstablaw26_known_cmp (rs := [.t 0]) (by kernel_rfl) h
-- selfstablaw26.LeaderJudges
def c_selfstablaw26_LeaderJudges_r0 : List SOper := [⟨.box 25 (.tmp 0), some 2, none, 0⟩, ⟨.mv (.const (.bool false)), some 4, none, 0⟩]
def c_selfstablaw26_LeaderJudges_r1 : List SOper := [⟨.load true 2 (.tmp 2), some 5, none, 0⟩, ⟨.mv (.tmp 1), some 6, none, 0⟩, ⟨.call (.func 17) [(.tmp 5), (.tmp 6)], some 7, none, 3⟩]
def c_selfstablaw26_LeaderJudges_r2 : List SOper := [⟨.call (.func 18) [], some 8, none, 0⟩, ⟨.mv (.tmp 8), some 4, none, 1⟩]
def c_selfstablaw26_LeaderJudges_r3 : List SOper := [⟨.call (.func 18) [], some 9, none, 0⟩, ⟨.mv (.tmp 9), some 10, none, 1⟩, ⟨.load true 2 (.tmp 2), some 11, some (10, true), 3⟩, ⟨.call (.func 19) [(.tmp 11)], some 12, some (10, true), 7⟩, ⟨.load true 2 (.tmp 2), some 13, some (10, true), 3⟩, ⟨.call (.func 20) [(.tmp 13)], some 14, some (10, true), 31⟩, ⟨.beq false (.tmp 12) (.tmp 14), some 15, some (10, true), 63⟩, ⟨.pick (.tmp 10) (.tmp 15) (.const (.bool false)), some 16, none, 127⟩, ⟨.mv (.tmp 16), some 17, none, 255⟩, ⟨.load true 2 (.tmp 2), some 18, some (17, true), 511⟩, ⟨.mv (.tmp 1), some 19, some (17, true), 511⟩, ⟨.call (.func 21) [(.tmp 18), (.tmp 19)], some 20, some (17, true), 2047⟩, ⟨.load true 2 (.tmp 2), some 21, some (17, true), 511⟩, ⟨.mv (.tmp 1), some 22, some (17, true), 511⟩, ⟨.call (.func 22) [(.tmp 21), (.tmp 22)], some 23, some (17, true), 16383⟩, ⟨.beq false (.tmp 20) (.tmp 23), some 24, some (17, true), 32767⟩, ⟨.pick (.tmp 17) (.tmp 24) (.const (.bool false)), some 25, none, 65535⟩, ⟨.mv (.tmp 25), some 26, none, 131071⟩, ⟨.load true 2 (.tmp 2), some 27, some (26, true), 262143⟩, ⟨.call (.func 23) [(.tmp 27)], some 28, some (26, true), 524287⟩, ⟨.load true 2 (.tmp 2), some 29, some (26, true), 262143⟩, ⟨.call (.func 24) [(.tmp 29)], some 30, some (26, true), 2097151⟩, ⟨.seq false [false, true, true, false, false] (.tmp 28) (.tmp 30), some 31, some (26, true), 4194303⟩, ⟨.pick (.tmp 26) (.tmp 31) (.const (.bool false)), some 32, none, 8388607⟩, ⟨.mv (.tmp 32), some 33, none, 16777215⟩, ⟨.load true 2 (.tmp 2), some 34, some (33, true), 33554431⟩, ⟨.mv (.tmp 1), some 35, some (33, true), 33554431⟩, ⟨.call (.func 25) [(.tmp 34), (.tmp 35)], some 36, some (33, true), 134217727⟩, ⟨.load true 2 (.tmp 2), some 37, some (33, true), 33554431⟩, ⟨.mv (.tmp 1), some 38, some (33, true), 33554431⟩, ⟨.call (.func 26) [(.tmp 37), (.tmp 38)], some 39, some (33, true), 1073741823⟩, ⟨.bin .eql (.tmp 36) (.tmp 39), some 40, some (33, true), 2147483647⟩, ⟨.pick (.tmp 33) (.tmp 40) (.const (.bool false)), some 41, none, 4294967295⟩, ⟨.mv (.tmp 41), some 4, none, 8589934591⟩]
def c_selfstablaw26_LeaderJudges : SC := (.seq (.reg false c_selfstablaw26_LeaderJudges_r0) (.seq (.seq (.reg false c_selfstablaw26_LeaderJudges_r1) (.cond (.tmp 7) (.seq (.reg false c_selfstablaw26_LeaderJudges_r2) .ret) .skip)) (.seq (.reg true c_selfstablaw26_LeaderJudges_r3) .ret)))
theorem c_selfstablaw26_LeaderJudges_cmp : (Try.f4.body.bind (cmp Try.prog Try.f4.ntmps)) = some c_selfstablaw26_LeaderJudges := by kernel_rfl
theorem c_selfstablaw26_LeaderJudges_ok (args : List SV) (Q : SV → Prop) (h : vc ⟨Ct Try.prog, Cm Try.prog, [], []⟩ c_selfstablaw26_LeaderJudges (retK [.t 4] Q) ⟨slots args 0, []⟩) : Ct Try.prog 4 args Q := fn_ok Try.func4 c_selfstablaw26_LeaderJudges_cmp (rs := [.t 4]) (by kernel_rfl) h
theorem c_selfstablaw26_LeaderJudges_okU (mu : List FuncId) (args : List SV) (Q : SV → Prop) (h : vc ⟨Ct Try.prog, Cm Try.prog, [], mu⟩ c_selfstablaw26_LeaderJudges (retK [.t 4] Q) ⟨slots args 0, []⟩) : Ct Try.prog 4 args Q := fn_ok Try.func4 c_selfstablaw26_LeaderJudges_cmp (rs := [.t 4]) (by kernel_rfl) h
theorem c_selfstablaw26_LeaderJudges_okM (pr : List Nm) (mu : List FuncId) (o : Own) (args : List SV) (Q : SV → Own → Prop) (h : vc ⟨Ct Try.prog, Cm Try.prog, pr, mu⟩ c_selfstablaw26_LeaderJudges (retM [.t 4] pr Q) ⟨slots args 0, o⟩) : Cm Try.prog 4 pr o args Q := fnM_ok Try.func4 c_selfstablaw26_LeaderJudges_cmp (rs := [.t 4]) (by kernel_rfl) h
-- selfstabref23.Number
def c_selfstabref23_Number_r0 : List SOper := [⟨.alloc 65 1 [.a (.string (ByteArray.mk #[])), .i .i64 0, .i .i64 0, .i .i64 0, .i .i64 0, .i .i64 0], some 8, none, 0⟩]
def c_selfstabref23_Number_r1 : List SOper := [⟨.mv (.tmp 0), some 9, none, 0⟩, ⟨.mv (.tmp 1), some 10, none, 0⟩, ⟨.mv (.tmp 2), some 11, none, 0⟩, ⟨.mv (.tmp 3), some 12, none, 0⟩, ⟨.build [.a (.string (ByteArray.mk #[])), .i .i64 0, .i .i64 0, .i .i64 0, .i .i64 0, .i .i64 0] [(0, 1, (.tmp 9)), (1, 1, (.const (.int .i64 1))), (3, 1, (.tmp 10)), (4, 1, (.tmp 11)), (5, 1, (.tmp 12))], some 13, none, 15⟩, ⟨.store 6 (.tmp 8) (.tmp 13), none, none, 31⟩]
def c_selfstabref23_Number : SC := (.seq (.reg false c_selfstabref23_Number_r0) (.seq (.reg false c_selfstabref23_Number_r1) .ret))
theorem c_selfstabref23_Number_cmp : (Try.f81.body.bind (cmp Try.prog Try.f81.ntmps)) = some c_selfstabref23_Number := by kernel_rfl
theorem c_selfstabref23_Number_ok (args : List SV) (Q : SV → Prop) (h : vc ⟨Ct Try.prog, Cm Try.prog, [], []⟩ c_selfstabref23_Number (retK [.c 8 true 6] Q) ⟨slots args 0, []⟩) : Ct Try.prog 81 args Q := fn_ok Try.func81 c_selfstabref23_Number_cmp (rs := [.c 8 true 6]) (by kernel_rfl) h
theorem c_selfstabref23_Number_okU (mu : List FuncId) (args : List SV) (Q : SV → Prop) (h : vc ⟨Ct Try.prog, Cm Try.prog, [], mu⟩ c_selfstabref23_Number (retK [.c 8 true 6] Q) ⟨slots args 0, []⟩) : Ct Try.prog 81 args Q := fn_ok Try.func81 c_selfstabref23_Number_cmp (rs := [.c 8 true 6]) (by kernel_rfl) h
theorem c_selfstabref23_Number_okM (pr : List Nm) (mu : List FuncId) (o : Own) (args : List SV) (Q : SV → Own → Prop) (h : vc ⟨Ct Try.prog, Cm Try.prog, pr, mu⟩ c_selfstabref23_Number (retM [.c 8 true 6] pr Q) ⟨slots args 0, o⟩) : Cm Try.prog 81 pr o args Q := fnM_ok Try.func81 c_selfstabref23_Number_cmp (rs := [.c 8 true 6]) (by kernel_rfl) h
-- selfstabref23.Pointer
def c_selfstabref23_Pointer_r0 : List SOper := [⟨.alloc 65 1 [.a (.string (ByteArray.mk #[])), .i .i64 0, .i .i64 0, .i .i64 0, .i .i64 0, .i .i64 0], some 2, none, 0⟩]
def c_selfstabref23_Pointer_r1 : List SOper := [⟨.mv (.tmp 0), some 3, none, 0⟩, ⟨.build [.a (.string (ByteArray.mk #[])), .i .i64 0, .i .i64 0, .i .i64 0, .i .i64 0, .i .i64 0] [(0, 1, (.tmp 3)), (1, 1, (.const (.int .i64 3)))], some 4, none, 1⟩, ⟨.store 6 (.tmp 2) (.tmp 4), none, none, 3⟩]
def c_selfstabref23_Pointer : SC := (.seq (.reg false c_selfstabref23_Pointer_r0) (.seq (.reg false c_selfstabref23_Pointer_r1) .ret))
theorem c_selfstabref23_Pointer_cmp : (Try.f82.body.bind (cmp Try.prog Try.f82.ntmps)) = some c_selfstabref23_Pointer := by kernel_rfl
theorem c_selfstabref23_Pointer_ok (args : List SV) (Q : SV → Prop) (h : vc ⟨Ct Try.prog, Cm Try.prog, [], []⟩ c_selfstabref23_Pointer (retK [.c 2 true 6] Q) ⟨slots args 0, []⟩) : Ct Try.prog 82 args Q := fn_ok Try.func82 c_selfstabref23_Pointer_cmp (rs := [.c 2 true 6]) (by kernel_rfl) h
theorem c_selfstabref23_Pointer_okU (mu : List FuncId) (args : List SV) (Q : SV → Prop) (h : vc ⟨Ct Try.prog, Cm Try.prog, [], mu⟩ c_selfstabref23_Pointer (retK [.c 2 true 6] Q) ⟨slots args 0, []⟩) : Ct Try.prog 82 args Q := fn_ok Try.func82 c_selfstabref23_Pointer_cmp (rs := [.c 2 true 6]) (by kernel_rfl) h
theorem c_selfstabref23_Pointer_okM (pr : List Nm) (mu : List FuncId) (o : Own) (args : List SV) (Q : SV → Own → Prop) (h : vc ⟨Ct Try.prog, Cm Try.prog, pr, mu⟩ c_selfstabref23_Pointer (retM [.c 2 true 6] pr Q) ⟨slots args 0, o⟩) : Cm Try.prog 82 pr o args Q := fnM_ok Try.func82 c_selfstabref23_Pointer_cmp (rs := [.c 2 true 6]) (by kernel_rfl) h
end Sh
end Go.Proofs.Ytlfojfndkcmfnaa
