/- Lemmas, joined: RvC RvD Sh ShA. -/
import Derived.Test.YtlfojfndkcmfnaaPkLe2
import Derived.Test.YtlfojfndkcmfnaaPkLe0
set_option linter.unusedSimpArgs false
set_option linter.unusedVariables false
namespace Go.Proofs.Ytlfojfndkcmfnaa
namespace Ev
open Go Go.RowKit

section
variable {P : Program} {self : Task → Option Out} {φ φ' : Phi} {M M' : AM} {w w' : World} {f f' : Fr} {m m' m'' : Mem} {a : Act}

theorem hit_some {g : Nat} {h : Option Nat} (e : hit g h = true) : h = some g := by
  unfold hit at e
  split at e
  · rw [Nat.eq_of_beq_eq_true e]
  · cases e
theorem SoundC.task {c : Code} {e : Exit} (h : Wf m → SoundC P c f m e f' m') : SoundT P (.code c f m) (.code e f' m') := fun hw => ⟨(h hw).1.ext, (h hw).1.low, (h hw).2⟩
def El.enc (x : El) : Array Value := #[x.v0, x.v1]
/-- What a function that yields the links of a graph does, whatever its rounds do, so long as the graph lies as it lay. -/
def IterOk (P : Program) (g : FuncId) : Prop := (∀ args w, (callFunc g args).run P w = .ok (.enter g args) w) ∧
  ∀ (l : Nat) (A : Addr) (gv : GV) (St : List El → Phi → AM → World → Prop) (Stop : World → Prop) (φ : Phi) (M : AM) (w : World) (box : Value),
    (∀ pre φ M w, St pre φ M w → ∃ m, Rel φ M w ∧ Sub m M ∧ graphOf m A = some gv) →
    (∀ pre φ M w w', St pre φ M w → Below w.heap.size w w' → St pre φ M w') →
    (∀ pre x post φ M w, St pre φ M w → flatAt 0 gv.ps = pre ++ x :: post → YieldAt Fence.wide 0 P l x.enc w fun e w' =>
      (e = .returned (.bool true) ∧ ∃ φ' M', φ.le φ' ∧ St (pre ++ [x]) φ' M' w') ∨ (e = .returned (.bool false) ∧ Stop w')) →
    St [] φ M w → VR φ (.pointer (some A)) box →
    CallsIn Fence.wide 0 P g #[.func (.yield l) #[] #[], box] w fun e w' => (∃ v, e = .returned v) ∧ ((∃ φ' M', St (flatAt 0 gv.ps) φ' M' w') ∨ Stop w')

theorem Img.not_loop (hR : Rel φ M w) {k : Nat} {x : Loop} (h : w.heap[k]? = some (.loop x)) : ¬ Img φ M k := by
  rintro ⟨i, b, l, h1, h2, rfl⟩
  obtain ⟨l', h3, h4⟩ := hR.blk i b h1
  rw [h2] at h3
  cases h3
  cases b with
  | cells c n e z => obtain ⟨_, _, cs, _, _, _, h5, _⟩ := h4; rw [h] at h5; cases h5
  | map es cl => have h5 : w.heap[l.blk]? = some (.map es cl) := h4; rw [h] at h5; cases h5
/-- A block of book-keeping is written. -/
theorem Good.put (h : Good φ M w m m' φ' M' w') {l : Nat} {x : Obj} (hl : ¬ Img φ' M' l) (hlo : w.heap.size ≤ l) : Good φ M w m m' φ' M' (w'.putObj l x) := by
  refine ⟨h.le, h.out, ⟨fun i b hb => ?_, h.rel.inj⟩, h.sub, h.frame, ?_⟩
  · obtain ⟨lc, q1, q2⟩ := h.rel.blk i b hb
    exact ⟨lc, q1, q2.keep (World.putObj_heap_other fun e => hl ⟨i, b, lc, hb, q1, e⟩)⟩
  · have hg := h.wg
    refine ⟨hg.os, hg.tape, hg.output, by simp; exact hg.size, fun k hk hn => ?_, hg.img⟩
    rw [World.putObj_heap_other (by omega)]
    exact hg.keep k hk hn
theorem Good.below (h : Good φ M w m m' φ' M' w') {w'' : World} (hb : Below w'.heap.size w' w'') : Good φ M w m m' φ' M' w'' :=
  ⟨h.le, h.out, h.rel.keep fun k hk => hb.block k hk, h.sub, h.frame,
    h.wg.trans ⟨hb.os, hb.tape, hb.output, hb.size, fun k hk _ => hb.block k hk, fun _ _ q => q⟩⟩

theorem evRounds_cons {p q : Nat} {assign body : Code} {ok : Mem → Bool} {x : El} {l : List El} {out : Out} (h : evRounds self f p q assign body ok (x :: l) m = some out) :
    ok m = true ∧ ∃ f1 f2 f3 m1 o2, Fr.putD x.v0 p f = some f1 ∧ Fr.putD x.v1 q f1 = some f2 ∧ self (.code assign f2 m) = some (.code .normal f3 m1) ∧ self (.code body f3 m1) = some o2 ∧
      afterRound f (evRounds self f p q assign body ok l) o2 = some out := by
  change iteB (ok m) (ob (evRound self f p q assign body x m) (afterRound f (evRounds self f p q assign body ok l))) none = some out at h
  obtain ⟨h1, h2⟩ := iteB_some h
  obtain ⟨o2, h3, h4⟩ := ob_some h2
  unfold evRound at h3
  rw [forceN_eq] at h3
  obtain ⟨f1, k1, h5⟩ := ob_some h3
  obtain ⟨f2, k2, h6⟩ := ob_some h5
  obtain ⟨o1, k3, h7⟩ := ob_some h6
  unfold bodyRound at h7
  split at h7
  · rename_i f3 m1
    exact ⟨h1, f1, f2, f3, m1, o2, k1, k2, k3, h7, h4⟩
  · cases h7
theorem evRounds_nil {p q : Nat} {assign body : Code} {ok : Mem → Bool} {out : Out} (h : evRounds self f p q assign body ok [] m = some out) : ok m = true ∧ out = .code .normal f m := by
  change iteB (ok m) (some (.code .normal f m)) none = some out at h
  obtain ⟨h1, h2⟩ := iteB_some h
  cases h2
  exact ⟨h1, rfl⟩
theorem evRounds_ok {p q : Nat} {assign body : Code} {ok : Mem → Bool} {l : List El} {out : Out} (h : evRounds self f p q assign body ok l m = some out) : ok m = true := by
  cases l with
  | nil => exact (evRounds_nil h).1
  | cons x l => exact (evRounds_cons h).1
theorem evRounds_grow (hself : SelfOk P self) {p q : Nat} {assign body : Code} {ok : Mem → Bool} : ∀ {l : List El} {m : Mem} {out : Out}, evRounds self f p q assign body ok l m = some out → Wf m → ∃ e m', out = .code e f m' ∧ Grow m m'
  | [], m, out, h, hw => by
    obtain ⟨_, rfl⟩ := evRounds_nil h
    exact ⟨_, m, rfl, Grow.refl hw⟩
  | x :: l, m, out, h, hw => by
    obtain ⟨_, f1, f2, f3, m1, o2, _, _, k3, k4, k5⟩ := evRounds_cons h
    obtain ⟨e1, g1, n1, q1, s1⟩ := self_code hself k3 hw
    cases q1
    obtain ⟨e2, g2, n2, q2, s2⟩ := self_code hself k4 s1.1.ext.wf
    subst q2
    have hg := s1.1.trans s2.1
    cases e2 with
    | normal =>
      obtain ⟨e, m', r1, r2⟩ := evRounds_grow hself (l := l) k5 s2.1.ext.wf
      exact ⟨e, m', r1, hg.trans r2⟩
    | ret => cases k5; exact ⟨_, _, rfl, hg⟩
    | exit id => cases k5; exact ⟨_, _, rfl, hg⟩
    | _ => cases k5

theorem FrR.putD {v v' : Value} {k : Nat} {f1 : Fr} (h : FrR φ f a) (hp : Fr.putD v k f = some f1) (hv : VR φ v v') : FrR φ f1 (a.put (some k) v') := FrR.put (d := some k) h hp hv

theorem eqLk_eq : ∀ {x y : List (Int × Int)}, eqLk x y = true → x = y
  | [], [], _ => rfl
  | x :: l, y :: k, h => by
    have h : (eqInt x.1 y.1 && eqInt x.2 y.2 && eqLk l k) = true := h
    simp only [Bool.and_eq_true] at h
    rw [eqLk_eq h.2]
    congr 1
    exact Prod.ext (eqInt_eq h.1.1) (eqInt_eq h.1.2)
  | [], _ :: _, h => by cases h
  | _ :: _, [], h => by cases h
theorem eqPs_eq : ∀ {x y : List (List (Int × Int))}, eqPs x y = true → x = y
  | [], [], _ => rfl
  | x :: l, y :: k, h => by
    have h : (eqLk x y && eqPs l k) = true := h
    simp only [Bool.and_eq_true] at h
    rw [eqPs_eq h.2, eqLk_eq h.1]
  | [], _ :: _, h => by cases h
  | _ :: _, [], h => by cases h
theorem sameG_eq {A : Addr} {gv : GV} (h : sameG A gv m = true) : graphOf m A = some gv := by
  unfold sameG at h
  split at h
  · rename_i k hk
    simp only [Bool.and_eq_true] at h
    rw [hk]
    obtain ⟨v, us, ps⟩ := k
    obtain ⟨v', us', ps'⟩ := gv
    have e1 : v = v' := eq1_eq h.1.1
    have e2 : us = us' := eqL1_eq h.1.2
    have e3 : ps = ps' := eqPs_eq h.2
    rw [e1, e2, e3]
  · cases h
theorem evRounds_out {p q : Nat} {assign body : Code} {ok : Mem → Bool} : ∀ {l : List El} {m : Mem} {out : Out}, evRounds self f p q assign body ok l m = some out → ∃ e m', out = .code e f m'
  | [], m, out, h => ⟨_, m, (evRounds_nil h).2⟩
  | x :: l, m, out, h => by
    obtain ⟨_, f1, f2, f3, m1, o2, _, _, _, _, k5⟩ := evRounds_cons h
    unfold afterRound at k5
    split at k5
    · exact evRounds_out (l := l) k5
    · cases k5; exact ⟨_, _, rfl⟩
    · cases k5; exact ⟨_, _, rfl⟩
    · cases k5

set_option maxHeartbeats 1000000 in
theorem range_sound {lk : Option Nat} (hlk : ∀ g, lk = some g → IterOk P g) (hself : SelfOk P self) {gx : Operand} {ps : Array Tmp} {assign body : Code} {v : Value} {out : Out}
    (hv : f.get gx = some v) (h : evRange self lk f m ps.toList assign body v = some out) : SoundT P (.code (.rangeFunc gx ps assign body) f m) out := by
  unfold evRange at h
  split at h
  · rename_i g first captured
    split at h
    · rename_i p q A hps hfirst hcap
      obtain ⟨hc, h2⟩ := iteB_some h
      simp only [Bool.and_eq_true] at hc
      obtain ⟨⟨hg, hna⟩, hnb⟩ := hc
      obtain ⟨gv, hgv, h3⟩ := ob_some h2
      have hit := hlk g (hit_some hg)
      obtain ⟨e0, mf, rfl⟩ := evRounds_out h3
      have hps' : ps = #[p, q] := Array.toList_inj.1 hps
      refine SoundC.task fun hw => ⟨?_, fun φ M w a r hnr hR hs hf hfr => ?_⟩
      · obtain ⟨e, m', q1, q2⟩ := evRounds_grow hself h3 hw
        cases q1
        exact q2
      · obtain rfl : r = none := by
          cases r with
          | none => rfl
          | some l => exact absurd (hnr rfl) (by simp [noRF])
        have hvr := get_sound (a := a) (fun t v _ ht => hf.get t v ht) hv
        obtain ⟨x', y', e1, e2, e3⟩ := hvr.func_inv
        rw [hfirst] at e2
        rw [hcap] at e3
        cases e2
        obtain ⟨box, rfl, hbox⟩ := vrl_one e3
        refine wpIn_rangeFunc ?_
        intro fn _
        obtain ⟨rec, hrec⟩ : ∃ rec : LoopState → Option Code → Loop, rec = fun st pe => { state := st, pending := pe, fn, tmps := a.tmps, params := ps, assign, body, defers := w.heap.size } := ⟨_, rfl⟩
        obtain ⟨W1, hW1⟩ : ∃ W1, (w.alloc (.deferred (some []))).alloc (.loop (rec .ready none)) = W1 := ⟨_, rfl⟩
        have hL1 : W1.heap[w.heap.size + 1]? = some (.loop (rec .ready none)) := by
          rw [← hW1]; have := World.alloc_heap_new (w.alloc (.deferred (some []))) (.loop (rec .ready none)); rwa [World.size_alloc] at this
        have hK1 : W1.heap[w.heap.size]? = some (.deferred (some [])) := by
          rw [← hW1]; exact (Below.heap_alloc _ _ _ (by simp)).trans (World.alloc_heap_new w _)
        have hb1 : Below w.heap.size w W1 := by
          rw [← hW1]; exact ((Below.refl _ w).alloc (Nat.le_refl _) _).alloc (by simp) _
        refine ⟨w.heap.size + 1, [{ target := .collected w.heap.size, args := #[] }], W1, { target := .fn (.func g) #[box], args := #[.func (.yield (w.heap.size + 1)) #[] #[]] }, W1, g,
          #[.func (.yield (w.heap.size + 1)) #[] #[], box], W1, ?_, ?_, fun _ _ => trivial, ?_, fun q => (by cases q), ?_⟩
        · rw [← hW1, hrec]; exact run_enterLoop_outer _ _ _ _ _
        · simp only [resolve, e1]
          simp [go_sem]
        · simp [invoke, go_sem, hit.1]
        · let St : List El → Phi → AM → World → Prop := fun pre φ' M' W => ∃ rest mi, flatAt 0 gv.ps = pre ++ rest ∧ evRounds self f p q assign body (sameG A gv) rest mi = some (.code e0 f mf) ∧ Grow m mi ∧ Good φ M w m mi φ' M' W ∧
            W.heap[w.heap.size + 1]? = some (.loop (rec .ready none)) ∧ W.heap[w.heap.size]? = some (.deferred (some []))
          let Stop : World → Prop := fun W => ∃ c φ' M', ((c = Code.ret ∧ e0 = .ret) ∨ ∃ id, c = .exit id ∧ e0 = .exit id) ∧ Good φ M w m mf φ' M' W ∧
            W.heap[w.heap.size + 1]? = some (.loop (rec .done (some c))) ∧ W.heap[w.heap.size]? = some (.deferred (some []))
          refine CallsIn.mono (hit.2 (w.heap.size + 1) A gv St Stop φ M W1 box ?_ ?_ ?_ ?_ hbox) ?_
          · rintro pre φ' M' W ⟨rest, mi, _, k2, _, k4, _⟩
            exact ⟨mi, k4.rel, k4.sub, sameG_eq (evRounds_ok k2)⟩
          · rintro pre φ' M' W W' ⟨rest, mi, k1, k2, k3, k4, k5, k6⟩ hb
            exact ⟨rest, mi, k1, k2, k3, k4.below hb, (hb.block _ (Array.getElem?_eq_some_iff.1 k5).1).trans k5, (hb.block _ (Array.getElem?_eq_some_iff.1 k6).1).trans k6⟩
          · rintro pre x post φ' M' W ⟨rest, mi, k1, k2, k3, hgd, hl, hd⟩ hfl
            rw [k1] at hfl
            have hrest : rest = x :: post := List.append_cancel_left hfl
            subst hrest
            obtain ⟨_, f1, f2, f3, m1, o2, p1, p2, p3, p4, p5⟩ := evRounds_cons k2
            obtain ⟨e1', g1, n1, q1, s1⟩ := self_code hself p3 k3.ext.wf
            cases q1
            obtain ⟨e2', g2, m2, q2, s2⟩ := self_code hself p4 s1.1.ext.wf
            subst q2
            have hm2 : m2.next ≤ mf.next := by
              cases e2' with
              | normal =>
                obtain ⟨e, m', r1, r2⟩ := evRounds_grow hself (l := post) p5 s2.1.ext.wf
                cases r1
                exact r2.ext.next
              | ret => cases p5; exact Nat.le_refl _
              | exit id => cases p5; exact Nat.le_refl _
              | _ => cases p5
            have hfr1 : Fresh φ' mi.next mf.next := hgd.fresh k3.ext hfr
            have hlt : w.heap.size + 1 < W.heap.size := (Array.getElem?_eq_some_iff.1 hl).1
            have hy := run_yield (P := P) (args := x.enc) hl (by rw [hrec, hps']; rfl)
            rw [hrec] at hy
            refine ⟨fn, _, assign, body, hy, roundIn_of_wpIn (F := Fence.wide) (n := 0) trivial ?_⟩
            have hfr0 := ((hf.mono hgd.le).putD p1 (VR.simple (v := x.v0) rfl)).putD p2 (VR.atomA (v := x.v1) rfl)
            have hfr2 : FrR φ' f2 { tmps := (ps.zip x.enc).foldl (fun tmps (t, a) => tmps.setIfInBounds t a) a.tmps, defers := [] } := by
              have et : (ps.zip x.enc).foldl (fun tmps (t, a) => tmps.setIfInBounds t a) a.tmps = ((a.put (some p) x.v0).put (some q) x.v1).tmps := by
                rw [hps']
                simp [El.enc, Act.put]
              rw [et]
              exact ⟨hfr0.size, hfr0.get⟩
            refine wpIn_mono (s1.2 φ' M' W _ (some (w.heap.size + 1)) (fun _ => hna) hgd.rel hgd.sub hfr2 (hfr1.left (Nat.le_trans s2.1.ext.next hm2))) ?_
            rintro e' a1 w1 ⟨rfl, φ1, M1, hg1, hf1, _⟩
            have hl1 : w1.heap[w.heap.size + 1]? = some (.loop (rec .ready none)) := (hg1.wg.keep _ hlt (Img.not_loop hgd.rel hl)).trans hl
            have hd1 : w1.heap[w.heap.size]? = some (.deferred (some [])) := (hg1.wg.keep _ (by omega) (Img.not_deferred hgd.rel hd)).trans hd
            have hlt1 : w.heap.size + 1 < w1.heap.size := (Array.getElem?_eq_some_iff.1 hl1).1
            refine ⟨_, run_beginRound hl1 (by rw [hrec]), ?_⟩
            have G1 : Good φ M w m m1 φ1 M1 w1 := Good.trans k3.ext s1.1.ext s1.1.low hgd hg1
            have G1' := G1.put (l := w.heap.size + 1) (x := .loop { rec .ready none with state := .busy }) (Img.not_loop hg1.rel hl1) (by omega)
            have hlb : (w1.putObj (w.heap.size + 1) (.loop { rec .ready none with state := .busy })).heap[w.heap.size + 1]? = some (.loop { rec .ready none with state := .busy }) := World.putObj_heap_same hlt1
            have hdb : (w1.putObj (w.heap.size + 1) (.loop { rec .ready none with state := .busy })).heap[w.heap.size]? = some (.deferred (some [])) := (World.putObj_heap_other (by omega)).trans hd1
            refine wpIn_mono (s2.2 φ1 M1 _ a1 (some (w.heap.size + 1)) (fun _ => hnb) G1'.rel G1'.sub hf1 ((hg1.fresh s1.1.ext hfr1).left hm2)) ?_
            rintro e' a2 w2 ⟨rfl, φ2, M2, hg2, _, _⟩
            have hltb : w.heap.size + 1 < (w1.putObj (w.heap.size + 1) (.loop { rec .ready none with state := .busy })).heap.size := (Array.getElem?_eq_some_iff.1 hlb).1
            have hl2 := (hg2.wg.keep _ hltb (Img.not_loop G1'.rel hlb)).trans hlb
            have hd2 := (hg2.wg.keep _ (Array.getElem?_eq_some_iff.1 hdb).1 (Img.not_deferred G1'.rel hdb)).trans hdb
            have hlt2 : w.heap.size + 1 < w2.heap.size := (Array.getElem?_eq_some_iff.1 hl2).1
            have G2 : Good φ M w m m2 φ2 M2 w2 := Good.trans (k3.trans s1.1).ext s2.1.ext s2.1.low G1' hg2
            have hle2 : φ'.le φ2 := Phi.le_trans hg1.le hg2.le
            have fin : ∀ (jump : Option Code), (w2.putObj (w.heap.size + 1) (.loop (rec (if jump.isNone then .ready else .done) jump))).heap[w.heap.size + 1]? = some (.loop (rec (if jump.isNone then .ready else .done) jump)) ∧
                (w2.putObj (w.heap.size + 1) (.loop (rec (if jump.isNone then .ready else .done) jump))).heap[w.heap.size]? = some (.deferred (some [])) ∧ Good φ M w m m2 φ2 M2 (w2.putObj (w.heap.size + 1) (.loop (rec (if jump.isNone then .ready else .done) jump))) ∧
                (Instr.endRound (w.heap.size + 1) jump).run P w2 = .ok (.bool jump.isNone) (w2.putObj (w.heap.size + 1) (.loop (rec (if jump.isNone then .ready else .done) jump))) := fun jump => by
              refine ⟨World.putObj_heap_same hlt2, (World.putObj_heap_other (by omega)).trans hd2, G2.put (Img.not_loop hg2.rel hl2) (by omega), ?_⟩
              have := run_endRound (P := P) jump hl2
              rw [hrec] at this ⊢
              exact this
            cases e' with
            | normal =>
              obtain ⟨a1', a2', a3', a4'⟩ := fin none
              exact ⟨_, _, a4', .inl ⟨rfl, φ2, M2, hle2, post, m2, by rw [k1]; simp, p5, (k3.trans s1.1).trans s2.1, a3', a1', a2'⟩⟩
            | ret =>
              obtain ⟨a1', a2', a3', a4'⟩ := fin (some .ret)
              cases p5
              exact ⟨_, _, a4', .inr ⟨rfl, .ret, φ2, M2, .inl ⟨rfl, rfl⟩, a3', a1', a2'⟩⟩
            | exit id =>
              obtain ⟨a1', a2', a3', a4'⟩ := fin (some (.exit id))
              cases p5
              exact ⟨_, _, a4', .inr ⟨rfl, .exit id, φ2, M2, .inr ⟨id, rfl, rfl⟩, a3', a1', a2'⟩⟩
            | _ => cases p5
          · refine ⟨flatAt 0 gv.ps, m, rfl, h3, Grow.refl hw, (Good.refl hR hs).below hb1, hL1, hK1⟩
          · have fin : ∀ {φ' M' W c st}, st ≠ .busy → Good φ M w m mf φ' M' W → W.heap[w.heap.size + 1]? = some (.loop (rec st c)) → W.heap[w.heap.size]? = some (.deferred (some [])) →
                ∃ w4, (Instr.endLoop (w.heap.size + 1)).run P W = .ok c w4 ∧ Good φ M w m mf φ' M' w4 ∧ FrR φ' f { a with defers := [{ target := .collected w.heap.size, args := #[] }] ++ a.defers } ∧
                  Df w w4 a { a with defers := [{ target := .collected w.heap.size, args := #[] }] ++ a.defers } := by
              intro φ' M' W c st hst hgd hl hd
              have hlt : w.heap.size + 1 < W.heap.size := (Array.getElem?_eq_some_iff.1 hl).1
              have hrun := run_endLoop (P := P) hl (by rw [hrec]; exact hst)
              have hpend : (rec st c).pending = c := by rw [hrec]
              rw [hpend] at hrun
              refine ⟨_, hrun, hgd.put (Img.not_loop hgd.rel hl) (by omega), ⟨(hf.mono hgd.le).size, (hf.mono hgd.le).get⟩, [{ target := .collected w.heap.size, args := #[] }], rfl, ?_, fun d hd' => ?_⟩
              · exact List.pairwise_singleton _ _
              · rw [List.mem_singleton] at hd'
                subst hd'
                exact ⟨w.heap.size, Nat.le_refl _, rfl, (World.putObj_heap_other (by omega)).trans hd⟩
            rintro e W ⟨⟨v, rfl⟩, (⟨φ', M', rest, mi, k1, k2, k3, hgd, hl, hd⟩ | ⟨c, φ', M', hc, hgd, hl, hd⟩)⟩
            · have hrest : rest = [] := by
                have := congrArg List.length k1
                rw [List.length_append] at this
                exact List.eq_nil_of_length_eq_zero (by omega)
              subst hrest
              obtain ⟨_, k5⟩ := evRounds_nil k2
              cases k5
              obtain ⟨w4, r1, r2, r3, r4⟩ := fin (by simp) hgd hl hd
              exact ⟨none, w4, r1, rfl, φ', M', r2, r3, r4⟩
            · obtain ⟨w4, r1, r2, r3, r4⟩ := fin (by simp) hgd hl hd
              rcases hc with ⟨rfl, rfl⟩ | ⟨id, rfl, rfl⟩
              · exact ⟨some .ret, w4, r1, wpIn_ret ⟨rfl, φ', M', r2, r3, r4⟩⟩
              · exact ⟨some (.exit id), w4, r1, wpIn_exit ⟨rfl, φ', M', r2, r3, r4⟩⟩
    · cases h
  · cases h

end
end Ev
end Go.Proofs.Ytlfojfndkcmfnaa
namespace Go.Proofs.Ytlfojfndkcmfnaa
namespace Ev
open Go Go.RowKit

structure HooksOk (P : Program) (H : Hooks) : Prop where
  catch_ : ∀ g, H.catch_ = some g → ∀ self, SelfOk P self → ∀ args m out, evCatch self m args = some out → SoundT P (.call g args m) out
  indexByte : ∀ g, H.indexByte = some g → ∀ args m out, evIndexByte m args = some out → SoundT P (.call g args m) out
  symm : ∀ g, H.symm = some g → ∀ args m out, evSymm H.symB m args = some out → SoundT P (.call g args m) out
  facts : ∀ c ∈ H.facts, ∀ f ∈ c.l, FactOk P f
  links : ∀ g, H.links = some g → IterOk P g

section
variable {P : Program} {self : Task → Option Out} {H : Hooks} {f f' : Fr} {m m' : Mem}


theorem now_sound {c : Code} {e : Exit} (hc : ∀ r Q a w, Q e a w → c.wpIn (wr r) 0 P Q a w) : SoundT P (.code c f m) (.code e f m) :=
  SoundC.task fun hw => ⟨Grow.refl hw, fun φ M w a r _ hR hs hf _ => hc r _ a w ⟨rfl, φ, M, Good.refl hR hs, hf, Df.same rfl⟩⟩

theorem codeStep_sound (hmix : P.follows .mixedOrders = true) {lk : Option Nat} (hlk : ∀ g, lk = some g → IterOk P g) (hself : SelfOk P self) {c : Code} {out : Out} (h : codeStep P self lk f m c = some out) : SoundT P (.code c f m) out := by
  unfold codeStep at h
  split at h
  · cases h; exact now_sound fun r Q a w hq => wpIn_skip hq
  · rename_i x y
    obtain ⟨o1, h1, h2⟩ := ob_some h
    unfold thenCode at h2
    split at h2
    · rename_i f1 m1
      have : ∃ e f' m', out = .code e f' m' := by
        have := hself _ _ h2
        cases out with
        | code e f' m' => exact ⟨e, f', m', rfl⟩
        | call v m' => exact this.elim
      obtain ⟨e, f', m', rfl⟩ := this
      refine SoundC.task fun hw => ?_
      obtain ⟨e1, f2, m2, he, hs1⟩ := self_code hself h1 hw
      cases he
      obtain ⟨e2, f3, m3, he, hs2⟩ := self_code hself h2 hs1.1.ext.wf
      cases he
      exact hs1.seq hs2
    · rename_i hne
      cases h2
      have : ∃ e f' m', out = Out.code e f' m' := by
        have := hself _ _ h1
        cases out with
        | code e f' m' => exact ⟨e, f', m', rfl⟩
        | call v m' => exact this.elim
      obtain ⟨e, f', m', rfl⟩ := this
      refine SoundC.task fun hw => ?_
      obtain ⟨e1, f2, m2, he, hs1⟩ := self_code hself h1 hw
      cases he
      refine ⟨hs1.1, fun φ M w a r hn hR hs hf hfr => wpIn_seq (wpIn_mono (hs1.2 φ M w a r (fun q => (noRF_seq (hn q)).1) hR hs hf hfr) ?_)⟩
      intro e' a' w' hp
      exact then_other (by rw [hp.1]; intro q; subst q; exact hne _ _ rfl) hp
  · rename_i c x y
    obtain ⟨v, hv, h2⟩ := ob_some h
    unfold condStep at h2
    split at h2
    · rename_i t
      have key : ∀ z : Code, self (.code z f m) = some out → (if t then x else y) = z → SoundT P (.code (.cond c x y) f m) out := by
        intro z hz he
        have : ∃ e f' m', out = .code e f' m' := by
          have := hself _ _ hz
          cases out with
          | code e f' m' => exact ⟨e, f', m', rfl⟩
          | call v m' => exact this.elim
        obtain ⟨e, f', m', rfl⟩ := this
        refine SoundC.task fun hw => ?_
        obtain ⟨e1, f2, m2, heq, hs1⟩ := self_code hself hz hw
        cases heq
        refine ⟨hs1.1, fun φ M w a r hn hR hs hf hfr => wpIn_cond (t := t) ?_ (by rw [he]; exact hs1.2 φ M w a r (fun q => by have := noRF_cond (hn q); rw [← he]; cases t <;> first | exact this.2 | exact this.1) hR hs hf hfr)⟩
        exact ((get_sound (fun t v _ ht => hf.get t v ht) hv).bool_iff t).2 rfl
      cases t with
      | true => exact key x h2 rfl
      | false => exact key y h2 rfl
    · cases h2
  · rename_i id b
    obtain ⟨o1, h1, h2⟩ := ob_some h
    unfold endBlock at h2
    split at h2
    · rename_i i f1 m1
      rw [iteB_eq] at h2
      split at h2
      · rename_i hi
        have hi := Nat.eq_of_beq_eq_true hi
        subst hi
        cases h2
        refine SoundC.task fun hw => ?_
        obtain ⟨e1, f2, m2, heq, hs1⟩ := self_code hself h1 hw
        cases heq
        refine ⟨hs1.1, fun φ M w a r hn hR hs hf hfr => wpIn_block (wpIn_mono (hs1.2 φ M w a r hn hR hs hf hfr) ?_)⟩
        rintro e' a' w' ⟨rfl, hp⟩
        simp only [Exit.inBlock, if_true]
        exact ⟨rfl, hp⟩
      · rename_i hi
        cases h2
        refine SoundC.task fun hw => ?_
        obtain ⟨e1, f2, m2, heq, hs1⟩ := self_code hself h1 hw
        cases heq
        refine ⟨hs1.1, fun φ M w a r hn hR hs hf hfr => wpIn_block (wpIn_mono (hs1.2 φ M w a r hn hR hs hf hfr) ?_)⟩
        rintro e' a' w' ⟨rfl, hp⟩
        have hne : i ≠ id := fun q => hi (by rw [q]; exact Nat.beq_refl _)
        simp only [Exit.inBlock, if_neg hne]
        exact ⟨rfl, hp⟩
    · rename_i hne
      cases h2
      have : ∃ e f' m', out = Out.code e f' m' := by
        have := hself _ _ h1
        cases out with
        | code e f' m' => exact ⟨e, f', m', rfl⟩
        | call v m' => exact this.elim
      obtain ⟨e, f', m', rfl⟩ := this
      refine SoundC.task fun hw => ?_
      obtain ⟨e1, f2, m2, heq, hs1⟩ := self_code hself h1 hw
      cases heq
      refine ⟨hs1.1, fun φ M w a r hn hR hs hf hfr => wpIn_block (wpIn_mono (hs1.2 φ M w a r hn hR hs hf hfr) ?_)⟩
      intro e' a' w' hp
      have he := hp.1
      subst he
      cases e' with
      | exit i => exact absurd rfl (hne i f' m')
      | _ => exact hp
  · rename_i b
    by_cases hw : Wf m
    · have hall := fun rr hrr => evLoop_sound (rr := rr) hself hrr _ f m out h hw
      obtain ⟨e, f', m', rfl, hg, _⟩ := hall none (fun q => by cases q)
      refine SoundC.task fun _ => ⟨hg, fun φ M w a r hn hR hs hf hfr => ?_⟩
      obtain ⟨e2, f2, m2, he, _, hr⟩ := hall r hn
      cases he
      exact wpIn_loop_rounds _ (hr φ M w a _ hR hs hf hfr fun a' w' φ' M' hgd hf' hd => ⟨rfl, φ', M', hgd, hf', hd⟩)
    · cases out with
      | code e f' m' => exact fun q => absurd q hw
      | call v m' =>
        exfalso
        have : ∀ n f m v m', evLoop self b n f m ≠ some (.call v m') := by
          intro n
          induction n with
          | zero => intro f m v m' q; cases q
          | succ n ih =>
            intro f m v m' q
            rcases evLoop_succ q with ⟨f1, m1, _, q2⟩ | ⟨q1, _⟩
            · exact ih _ _ _ _ q2
            · exact hself _ _ q1
        exact this _ _ _ _ _ h
  · rename_i id; cases h; exact now_sound fun r Q a w hq => wpIn_exit hq
  · cases h; exact now_sound fun r Q a w hq => wpIn_ret hq
  · rename_i id ops d
    unfold regionStep at h
    cases d with
    | false =>
      change ob (evOps P self ops.toList ops.toList f m) endRegion = some out at h
      obtain ⟨x, h1, h2⟩ := ob_some h
      cases h2
      refine SoundC.task fun hw => ?_
      have hall := fun rr => evOps_sound (rr := rr) hself (ops := ops) ops.toList f m x h1 hw
      exact ⟨(hall none).1, fun φ M w a r _ hR hs hf hfr => wpIn_region_list ((hall r).2 φ M w a _ hR hs hf hfr fun a' w' φ' M' hgd hf' hd => ⟨rfl, φ', M', hgd, hf', Df.same hd⟩)⟩
    | true =>
      change drawStep P self ops.toList (ancs ops.toList []).reverse f m = some out at h
      unfold drawStep at h
      obtain ⟨hsl, h1⟩ := iteB_some h
      obtain ⟨x, h2, h3⟩ := ob_some h1
      cases h3
      refine SoundC.task fun hw => ?_
      have hall := fun rr => draw_sound (rr := rr) hself hmix hsl h2 hw
      exact ⟨(hall none).1, fun φ M w a r _ hR hs hf hfr => (hall r).2 id φ M w a _ hR hs hf hfr fun a' w' φ' M' hgd hf' hd => ⟨rfl, φ', M', hgd, hf', Df.same hd⟩⟩
  · rename_i g ps assign body
    obtain ⟨v, hv, h2⟩ := ob_some h
    exact range_sound hlk hself hv h2
  · cases h

theorem evStep_sound (hmix : P.follows .mixedOrders = true) (hn : NoNum P) (hH : HooksOk P H) (hself : SelfOk P self) : SelfOk P (evStep P self H) := by
  intro t out h
  cases t with
  | code c f m => exact codeStep_sound hmix hH.links hself h
  | call g args m =>
    change callStep P self H g args m = some out at h
    unfold callStep at h
    cases hff : findFact g args m H.facts with
    | some o1 =>
      rw [hff] at h
      cases h
      exact findFact_use hH.facts hff
    | none =>
    rw [hff] at h
    change callStep1 P self H g args m = some out at h
    unfold callStep1 at h
    rw [iteB_eq] at h
    split at h
    · rename_i hc; exact hH.catch_ g (hit_some hc) self hself args m out h
    · rw [iteB_eq] at h
      split at h
      · rename_i hc; exact hH.indexByte g (hit_some hc) args m out h
      · rw [iteB_eq] at h
        split at h
        · rename_i hc; exact hH.symm g (hit_some hc) args m out h
        · obtain ⟨fn, hg, h2⟩ := ob_some h
          exact enterFn_sound hn hself hg h2
theorem ev_sound (hmix : P.follows .mixedOrders = true) (hn : NoNum P) (hH : HooksOk P H) : ∀ n, SelfOk P (ev P H n)
  | 0 => fun t out h => by cases h
  | n + 1 => evStep_sound hmix hn hH (ev_sound hmix hn hH n)

theorem wf0 : Wf mem0 := fun i b h => by cases h
/-- A call without arguments that hold addresses, in whatever world. -/
theorem ev_calls (hmix : P.follows .mixedOrders = true) (hn : NoNum P) (hH : HooksOk P H) {n : Nat} {g : FuncId} {args : List Value} {v : Value} {m' : Mem} (h : ev P H n (.call g args mem0) = some (.call v m')) (ha : args.all atomA = true) (hg : ∃ fn c, P.funcs[g]? = some fn ∧ fn.body = some c) (w : World) :
    Calls P g args.toArray w fun e w' => ∃ v' φ M, e = .returned v' ∧ VR φ v v' ∧ Rel φ M w' ∧ Sub m' M ∧ Below w.heap.size w w' := by
  have hs := (ev_sound hmix hn hH n _ _ h wf0).2 (fun _ => none) (fun _ => none) w args ⟨fun i b hb => (by cases hb), fun i j x y li lj _ hx => (by cases hx)⟩ (fun i b hb => by cases hb) (VRL.atomA ha) (fun _ _ _ => rfl)
  obtain ⟨fn, c, h1, h2⟩ := hg
  rcases hs with ⟨_, hc⟩ | ⟨v', w', hrun, _⟩
  · refine hc.mono ?_
    rintro e w' ⟨v', rfl, φ', M', hgd, hv⟩
    refine ⟨v', φ', M', rfl, hv, hgd.rel, hgd.sub, hgd.wg.os, hgd.wg.tape, hgd.wg.output, hgd.wg.size, fun k hk => hgd.wg.keep k hk ?_⟩
    rintro ⟨i, b, l, hb, _⟩
    cases hb
  · rw [callFunc_enter hn h1 h2] at hrun
    cases hrun
/-- The value of a call. -/
def outV : Option Out → Option Value
  | some (.call v _) => some v
  | _ => none
theorem ev_calls_atom (hmix : P.follows .mixedOrders = true) (hn : NoNum P) (hH : HooksOk P H) {n : Nat} {g : FuncId} {args : List Value} {v : Value} (h : outV (ev P H n (.call g args mem0)) = some v) (ha : args.all atomA = true) (hva : atomA v = true) (hg : ∃ fn c, P.funcs[g]? = some fn ∧ fn.body = some c) (w : World) :
    Calls P g args.toArray w fun e w' => e = .returned v ∧ Below w.heap.size w w' := by
  unfold outV at h
  split at h
  · rename_i v' m' he
    cases h
    refine (ev_calls hmix hn hH he ha hg w).mono ?_
    rintro e w' ⟨v', φ, M, rfl, hv, _, _, hb⟩
    rw [hv.eq_atomA hva]
    exact ⟨rfl, hb⟩
  · cases h
end
end Ev
end Go.Proofs.Ytlfojfndkcmfnaa
namespace Go.Proofs.Ytlfojfndkcmfnaa
namespace Sh
noncomputable section
open Go Ev

/-- A name of an own block: a family (the slot of the operation that made it) and a place in it. -/
abbrev Nm := Nat × Nat
/-- Values as they are told of: a slice is a length and its elements (lists of cells), a pointer to what is never written any more is what it points to. -/
inductive SV where
  | i (k : IntKind) (n : Int)
  | b (x : Bool)
  | a (v : Value)
  | sl (z n : Nat) (g : Nat → List SV)
  | rf (c : List SV)
  | ag (c : List SV)
  | tp (c : List SV)
  | pt (β : Nm) (i j : Nat)
  | os (β : Nm) (o n : Nat) (ap : Bool)
  | fn (g : FuncId) (f c : List SV)
  | ex (Q : (Nat → Option ABlk) → Value → Prop) (v : SV)
  | bad

/-- An own block: elements of z cells. -/
structure OB where
  e : TypeId
  bx : Bool
  z : Nat
  n : Nat
  g : Nat → List SV

/-- A family of own blocks: one, or as many as one likes. -/
inductive Fam where
  | one (b : Option OB)
  | many (g : Nat → Option OB)
def Fam.at : Fam → Nat → Option OB
  | .one b, i => if i = 0 then b else none
  | .many g, i => g i
abbrev Own := List (Nat × Fam)
structure SS where
  f : List (Nat × SV)
  o : Own

def look {α : Type} (l : List (Nat × α)) (t : Nat) : Option α := match l with
  | [] => none
  | (k, v) :: l => if k = t then some v else look l t
def lookO (l : Own) (β : Nm) : Option OB := match look l β.1 with
  | some F => F.at β.2
  | none => none
def famSet (F : Option Fam) (i : Nat) (b : Option OB) : Fam := match F with
  | some (.many g) => .many (fun j => if j = i then b else g j)
  | _ => .one b
def SS.put (s : SS) (d : Option Nat) (v : SV) : SS := match d with
  | none => s
  | some t => ⟨(t, v) :: s.f, s.o⟩
def SS.own (s : SS) (β : Nm) (b : Option OB) : SS := ⟨s.f, (β.1, famSet (look s.o β.1) β.2 b) :: s.o⟩

def ofV : Value → SV
  | .int k n => .i k n
  | .bool x => .b x
  | v => .a v
def constS : Value → Option SV
  | .int k n => some (.i k n)
  | .bool x => some (.b x)
  | .agg cs => if cs.toList.all simple then some (.ag (cs.toList.map ofV)) else none
  | v => if simple v then some (.a v) else none
def SS.get (s : SS) : Operand → Option SV
  | .tmp t => look s.f t
  | .const v => constS v
  | .global _ => none
  | .func g => some (.fn g [] [])
def SS.gets (s : SS) : List Operand → Option (List SV)
  | [] => some []
  | x :: l => match s.get x, s.gets l with
    | some v, some vs => some (v :: vs)
    | _, _ => none

/-- What is told besides how exactly it lies. -/
def SS.pget (s : SS) (x : Operand) : Option SV := match s.get x with
  | some (.ex _ v) => some v
  | r => r
inductive SOp where
  | mv (x : Operand)
  | pick (c a b : Operand)
  | alloc (e : TypeId) (n : Nat) (z : List SV)
  | box (e : TypeId) (x : Operand)
  | build (z : List SV) (ps : List (Nat × Nat × Operand))
  | bslice (e z n : Nat) (zs : List SV) (ps : List (Nat × Nat × Operand))
  | load (ag : Bool) (n : Nat) (x : Operand)
  | store (n : Nat) (x y : Operand)
  | nilck (x : Operand)
  | faddr (o n : Nat) (x : Operand)
  | field (ag : Bool) (o n : Nat) (x : Operand)
  | idx (z : Nat) (x k : Operand)
  | idxA (n z : Nat) (x k : Operand)
  | extract (x : Operand) (k : Nat)
  | mkfn (g : FuncId) (a b : List Operand)
  | mk (e z by_ : Nat) (zs : List SV) (l c : Operand)
  | cut (z : Nat) (x : Operand) (lo hi : Option Operand)
  | cutA (n z : Nat) (x : Operand) (lo hi : Option Operand)
  | len (x : Operand)
  | app (e z by_ : Nat) (s x : Operand)
  | mm (mx : Bool) (x y : Operand)
  | bin (op : BinOp) (x y : Operand)
  | wsub (x y : Operand)
  | beq (ne : Bool) (x y : Operand)
  | seq (ne : Bool) (ks : List Bool) (x y : Operand)
  | stri (l : List Nat) (k : Operand)
  | un (op : UnOp) (x : Operand)
  | conv (k : IntKind) (x : Operand)
  | call (f : Operand) (xs : List Operand)
  | no

structure SOper where
  op : SOp
  dst : Option Nat
  g : Option (Nat × Bool)
  an : Nat

inductive SC where
  | skip
  | seq (a b : SC)
  | cond (c : Operand) (a b : SC)
  | block (id : Nat) (b : SC)
  | loop (b : SC)
  | exit (id : Nat)
  | ret
  | reg (d : Bool) (ops : List SOper)
  | no

/-- What an operation has touched: own blocks read, written, new; whether it reads what is not written any more. -/
structure SRec where
  rd : List Nm
  wr : List Nm
  nw : List Nm
  fz : Bool
  cl : Bool
  gr : Bool
  mu : Bool
def SRec.no : SRec := ⟨[], [], [], false, false, false, false⟩
/-- That of a call that may change what it is given. -/
def SRec.top : SRec := ⟨[], [], [], true, true, true, true⟩

/-- What an operation comes to: what has to hold, what it touched, its value, and the state. -/
structure XR where
  c : Prop
  r : SRec
  v : SV
  s : SS

/-- Parts of a list of cells. -/
def part (ag : Bool) (o n : Nat) (l : List SV) : Option SV :=
  if o + n ≤ l.length then (if ag then some (.ag ((l.drop o).take n)) else if n = 1 then (l.drop o).head? else none) else none
def SV.cells : SV → List SV
  | .ag c => c
  | v => [v]
def one1 : SV → Bool
  | .ag _ | .tp _ | .bad => false
  | .ex _ v => one1 v
  | _ => true
def splice (l : List SV) (o : Nat) (new : List SV) : List SV := l.take o ++ new ++ l.drop (o + new.length)
def fill (s : SS) (l : List SV) : List (Nat × Nat × Operand) → Option (List SV)
  | [] => some l
  | (o, n, x) :: ps => match s.get x with
    | none => none
    | some v => if v.cells.length = n ∧ o + n ≤ l.length ∧ v.cells.all one1 = true then fill s (splice l o v.cells) ps else none
/-- An own block after a store. -/
def OB.set (b : OB) (i j : Nat) (l : List SV) : OB :=
  ⟨b.e, b.bx, b.z, b.n, if b.n = 1 ∧ b.bx = true then (let c := splice (b.g 0) j l; fun _ => c) else fun k => if k = i then splice (b.g i) j l else b.g k⟩
/-- Elements of a slice, however it is told of: elements, cells an element, length, and own blocks read. -/
structure Row where
  c : Prop
  n : Nat
  g : Nat → List SV
  rd : List Nm
  fz : Bool
def rowOfS (s : SS) (z : Nat) : SV → Option Row
  | .sl z' n g => if z' = z then some ⟨True, n, g, [], true⟩ else none
  | .os β o n _ => match lookO s.o β with
    | some b => if b.z = z then some ⟨o + n ≤ b.n, n, fun k => b.g (o + k), [β], false⟩ else none
    | none => none
  | .a (.slice none 0 0) => some ⟨True, 0, fun _ => [], [], false⟩
  | _ => none
def inK (k : IntKind) (n : Int) : Prop := k.min ≤ n ∧ n ≤ k.max
def xbin (op : BinOp) : SV → SV → Option (Prop × SV)
  | .i k x, .i k' y => match op with
    | .add => if k = k' then some (inK k (x + y), .i k (x + y)) else none
    | .sub => if k = k' then some (inK k (x - y), .i k (x - y)) else none
    | .mul => if k = k' then some (inK k (x * y), .i k (x * y)) else none
    | .quo => if k = k' then some (y ≠ 0 ∧ inK k (x.tdiv y), .i k (x.tdiv y)) else none
    | .rem => if k = k' then some (y ≠ 0, .i k (x.tmod y)) else none
    | .shl => some (0 ≤ y ∧ y < k.bits, .i k (k.wrap (x * 2 ^ y.toNat)))
    | .shr => some (0 ≤ y ∧ y < k.bits, .i k (x.fdiv (2 ^ y.toNat)))
    | .and => if k = k' then some (True, .i k (k.wrap (BitVec.ofInt k.bits x &&& BitVec.ofInt k.bits y).toNat)) else none
    | .or => if k = k' then some (True, .i k (k.wrap (BitVec.ofInt k.bits x ||| BitVec.ofInt k.bits y).toNat)) else none
    | .xor => if k = k' then some (True, .i k (k.wrap (BitVec.ofInt k.bits x ^^^ BitVec.ofInt k.bits y).toNat)) else none
    | .andNot => if k = k' then some (True, .i k (k.wrap (BitVec.ofInt k.bits x &&& ~~~BitVec.ofInt k.bits y).toNat)) else none
    | .eql => if k = k' then some (True, .b (x == y)) else none
    | .neq => if k = k' then some (True, .b (x != y)) else none
    | .lss => if k = k' then some (True, .b (decide (x < y))) else none
    | .leq => if k = k' then some (True, .b (decide (x ≤ y))) else none
    | .gtr => if k = k' then some (True, .b (decide (x > y))) else none
    | .geq => if k = k' then some (True, .b (decide (x ≥ y))) else none
  | _, _ => none
def xun (op : UnOp) : SV → Option (Prop × SV)
  | .i k x => match op with
    | .neg => if k.signed = true then some (inK k (0 - x), .i k (0 - x)) else some (True, .i k (k.wrap (0 - x)))
    | .xor => some (True, .i k (k.wrap (BitVec.ofInt k.bits (if k.signed then -1 else k.max) ^^^ BitVec.ofInt k.bits x).toNat))
    | _ => none
  | .b x => match op with
    | .not => some (True, .b !x)
    | _ => none
  | _ => none
def pureX (s : SS) : Option (Prop × SV) → Option XR
  | some (c, v) => some ⟨c, SRec.no, v, s⟩
  | none => none
def loadX (s : SS) (ag : Bool) (n : Nat) : SV → Option XR
  | .rf c => match part ag 0 n c with
    | some v => some ⟨True, ⟨[], [], [], true, false, false, false⟩, v, s⟩
    | none => none
  | .pt β i j => match lookO s.o β with
    | some b => if j + n ≤ b.z then (match part ag j n (b.g i) with
      | some v => some ⟨i < b.n, ⟨[β], [], [], false, false, false, false⟩, v, s⟩
      | none => none) else none
    | none => none
  | _ => none
def storeX (s : SS) (n : Nat) (v : SV) : SV → Option XR
  | .pt β i j => match lookO s.o β with
    | some b => if v.cells.length = n ∧ j + n ≤ b.z ∧ v.cells.all one1 = true then
        some ⟨i < b.n, ⟨[β], [β], [], false, false, false, false⟩, .tp [], s.own β (some (b.set i j v.cells))⟩ else none
    | none => none
  | _ => none
def idxX (s : SS) (n : Int) (z : Nat) : SV → Option XR
  | .sl z' m g => if z' = z then some ⟨0 ≤ n ∧ n < m, SRec.no, .rf (g n.toNat), s⟩ else none
  | .os β o m _ => match lookO s.o β with
    | some b => if b.z = z then some ⟨0 ≤ n ∧ n < m, SRec.no, .pt β (o + n.toNat) 0, s⟩ else none
    | none => none
  | _ => none
def natX (s : SS) (d : Nat) : Option Operand → Option (Int)
  | none => some d
  | some x => match s.get x with
    | some (.i _ n) => some n
    | _ => none
/-- Whether two lists of numbers and truth values (where ks says so) are equal. -/
def eqL : List Bool → List SV → List SV → Option Bool
  | [], [], [] => some true
  | false :: ks, .i k n :: l, .i k' m :: l' => if k = k' then (eqL ks l l').map (decide (n = m) && ·) else none
  | true :: ks, .b x :: l, .b y :: l' => (eqL ks l l').map ((x == y) && ·)
  | _, _, _ => none
def newOK (s : SS) (e d : Nat) : Bool := (look s.o d).isNone && decide (e < 1000000000)
def xOp (s : SS) (d : Option Nat) : SOp → Option XR
  | .mv x => match s.get x with
    | some v => some ⟨True, SRec.no, v, s⟩
    | none => none
  | .pick c a b => match s.get c with
    | some (.b t) => (match s.get (if t then a else b) with
      | some v => some ⟨True, SRec.no, v, s⟩
      | none => none)
    | _ => none
  | .alloc e n z => match d with
    | some β => if newOK s e β then some ⟨True, ⟨[], [], [(β, 0)], false, false, false, false⟩, .pt (β, 0) 0 0, s.own (β, 0) (some ⟨e, true, z.length, n, fun _ => z⟩)⟩ else none
    | none => none
  | .box e x => match d, s.get x with
    | some β, some v => if newOK s e β ∧ v.cells.all one1 = true then some ⟨True, ⟨[], [], [(β, 0)], false, false, false, false⟩, .pt (β, 0) 0 0, s.own (β, 0) (some ⟨e, true, v.cells.length, 1, fun _ => v.cells⟩)⟩ else none
    | _, _ => none
  | .build z ps => match fill s z ps with
    | some l => some ⟨True, SRec.no, .ag l, s⟩
    | none => none
  | .bslice e z n zs ps => match d, fill s zs ps with
    | some β, some l => if newOK s e β then some ⟨True, ⟨[], [], [(β, 0)], false, false, false, false⟩, .os (β, 0) 0 n true, s.own (β, 0) (some ⟨e, false, z, n, fun k => (l.drop (k * z)).take z⟩)⟩ else none
    | _, _ => none
  | .load ag n x => match s.get x with
    | some p => loadX s ag n p
    | none => none
  | .store n x y => match s.get x, s.get y with
    | some p, some v => storeX s n v p
    | _, _ => none
  | .nilck x => match s.get x with
    | some (.rf c) => some ⟨True, SRec.no, .rf c, s⟩
    | some (.pt β i j) => some ⟨True, SRec.no, .pt β i j, s⟩
    | _ => none
  | .faddr o n x => match s.get x with
    | some (.rf c) => if o + n ≤ c.length then some ⟨True, SRec.no, .rf ((c.drop o).take n), s⟩ else none
    | some (.pt β i j) => some ⟨True, SRec.no, .pt β i (j + o), s⟩
    | _ => none
  | .field ag o n x => match s.get x with
    | some (.ag c) => (match part ag o n c with
      | some v => some ⟨True, SRec.no, v, s⟩
      | none => none)
    | _ => none
  | .idx z x k => match s.pget x, s.get k with
    | some p, some (.i _ n) => idxX s n z p
    | _, _ => none
  | .idxA m z x k => match s.get x, s.get k with
    | some (.pt β i j), some (.i _ n) => (match lookO s.o β with
      | some b => if b.z = z then some ⟨0 ≤ n ∧ n < m, SRec.no, .pt β (i + n.toNat) j, s⟩ else some ⟨0 ≤ n ∧ n < m, SRec.no, .pt β i (j + n.toNat * z), s⟩
      | none => none)
    | some (.rf c), some (.i _ n) => some ⟨0 ≤ n ∧ n < m ∧ n.toNat * z + z ≤ c.length, SRec.no, .rf ((c.drop (n.toNat * z)).take z), s⟩
    | _, _ => none
  | .extract x k => match s.get x with
    | some (.tp c) => (match c[k]? with
      | some v => some ⟨True, SRec.no, v, s⟩
      | none => none)
    | _ => none
  | .mkfn g a b => match s.gets a, s.gets b with
    | some a, some b => some ⟨True, SRec.no, .fn g a b, s⟩
    | _, _ => none
  | .mk e z by_ zs l c => match d, s.get l, s.get c with
    | some β, some (.i _ n), some (.i _ m) => if newOK s e β then some ⟨n = m ∧ 0 ≤ n ∧ by_ * n.toNat ≤ 1000000 ∧ n.toNat ≤ 1000000, ⟨[], [], [(β, 0)], false, false, false, false⟩, .os (β, 0) 0 n.toNat true, s.own (β, 0) (some ⟨e, false, z, n.toNat, fun _ => zs⟩)⟩ else none
    | _, _, _ => none
  | .cut z x lo hi => match s.pget x with
    | some (.sl z' m g) => (match natX s m hi, natX s 0 lo with
      | some h, some l => if z' = z then some ⟨0 ≤ l ∧ l ≤ h ∧ h ≤ m ∧ 0 < m, ⟨[], [], [], true, false, false, false⟩, .sl z (h.toNat - l.toNat) (fun k => g (l.toNat + k)), s⟩ else none
      | _, _ => none)
    | some (.os β o m c) => (match natX s m hi, natX s 0 lo, lookO s.o β with
      | some h, some l, some b => if b.z = z ∧ b.bx = false then some ⟨0 ≤ l ∧ l ≤ h ∧ h ≤ m, ⟨[β], [], [], false, false, false, false⟩, .os β (o + l.toNat) (h.toNat - l.toNat) (c && hi.isNone), s⟩ else none
      | _, _, _ => none)
    | _ => none
  | .cutA m z x lo hi => match s.get x with
    | some (.pt β 0 0) => (match natX s m hi, natX s 0 lo, lookO s.o β with
      | some h, some l, some b => if b.n = m ∧ b.z = z ∧ b.bx = true then some ⟨0 ≤ l ∧ l ≤ h ∧ h ≤ m ∧ m ≤ 1000000, ⟨[β], [], [], false, false, false, false⟩, .os β l.toNat (h.toNat - l.toNat) false, s⟩ else none
      | _, _, _ => none)
    | _ => none
  | .len x => match s.pget x with
    | some (.sl _ n _) => some ⟨True, SRec.no, .i .i64 n, s⟩
    | some (.os _ _ n _) => some ⟨True, SRec.no, .i .i64 n, s⟩
    | some (.a (.slice none 0 0)) => some ⟨True, SRec.no, .i .i64 0, s⟩
    | _ => none
  | .app e z by_ x y => match d, s.get x, s.pget y with
    | some β, some x, some y => (match rowOfS s z y with
      | some q => if newOK s e β then (if q.n = 0 then (match x with
        | .a (.slice none 0 0) => some ⟨q.c, SRec.no, .a (.slice none 0 0), s⟩
        | .os γ p n true => some ⟨q.c ∧ n * by_ ≤ 100000000 ∧ n ≤ 100000000, SRec.no, .os γ p n true, s⟩
        | _ => none) else (match x with
        | .a (.slice none 0 0) => some ⟨q.c ∧ 0 < q.n ∧ q.n * by_ ≤ 100000000 ∧ q.n ≤ 100000000, ⟨q.rd, [], [(β, 0)], q.fz, false, false, false⟩, .os (β, 0) 0 q.n true,
            s.own (β, 0) (some ⟨e, false, z, q.n, q.g⟩)⟩
        | .os γ p n true => (match lookO s.o γ with
          | some b => if b.e = e ∧ b.z = z ∧ b.bx = false then some ⟨q.c ∧ p + n ≤ b.n ∧ 0 < q.n ∧ (n + q.n) * by_ ≤ 100000000 ∧ n + q.n ≤ 100000000, ⟨γ :: q.rd, [γ], [(β, 0)], q.fz, false, false, false⟩, .os (β, 0) 0 (n + q.n) true,
            (s.own γ none).own (β, 0) (some ⟨e, false, z, n + q.n, fun k => if k < n then b.g (p + k) else q.g (k - n)⟩)⟩ else none
          | none => none)
        | _ => none)) else none
      | none => none)
    | _, _, _ => none
  | .mm mx x y => match s.get x, s.get y with
    | some (.i k n), some (.i k' m) => if k = k' then some ⟨True, SRec.no, .i k (if mx then max n m else min n m), s⟩ else none
    | _, _ => none
  | .bin op x y => match s.get x, s.get y with
    | some v, some w => pureX s (xbin op v w)
    | _, _ => none
  | .wsub x y => match s.get x, s.get y with
    | some (.i k n), some (.i k' m) => if k = k' then some ⟨True, SRec.no, .i k (k.wrap (n - m)), s⟩ else none
    | _, _ => none
  | .beq ne x y => match s.get x, s.get y with
    | some (.b a), some (.b b) => some ⟨True, SRec.no, .b (if ne then a != b else a == b), s⟩
    | _, _ => none
  | .seq ne ks x y => match s.get x, s.get y with
    | some (.ag l), some (.ag l') => (match eqL ks l l' with
      | some q => some ⟨True, SRec.no, .b (if ne then !q else q), s⟩
      | none => none)
    | _, _ => none
  | .stri l k => match s.get k with
    | some (.i _ n) => some ⟨0 ≤ n ∧ n < l.length, SRec.no, .i .u8 ((l.getD n.toNat 0 : Nat) : Int), s⟩
    | _ => none
  | .un op x => match s.get x with
    | some v => pureX s (xun op v)
    | _ => none
  | .conv k x => match s.get x with
    | some (.i _ n) => some ⟨True, SRec.no, .i k (k.wrap n), s⟩
    | _ => none
  | .call _ _ => none
  | .no => none

def slots : List SV → Nat → List (Nat × SV)
  | [], _ => []
  | v :: l, i => (i, v) :: slots l (i + 1)
/-- What is told to a function of an own thing: what it holds now. -/
def view (o : Own) : Nat → SV → SV
  | 0, _ => .bad
  | n + 1, v => match v with
    | .pt β i j => (match lookO o β with
      | some b => .rf ((((b.g i).drop j)).map (view o n))
      | none => .bad)
    | .os β p m _ => (match lookO o β with
      | some b => .sl b.z m (fun k => (b.g (p + k)).map (view o n))
      | none => .bad)
    | .ag c => .ag (c.map (view o n))
    | .tp c => .tp (c.map (view o n))
    | .fn g a b => .fn g (a.map (view o n)) (b.map (view o n))
    | v => v
def allP (p : SV → Prop) : List SV → Prop
  | [] => True
  | x :: l => p x ∧ allP p l
/-- It can be told so. -/
def vok (o : Own) : Nat → SV → Prop
  | 0, _ => False
  | n + 1, v => match v with
    | .pt β i j => (match lookO o β with
      | some b => (i < b.n ∧ j ≤ b.z) ∧ allP (vok o n) ((b.g i).drop j)
      | none => False)
    | .os β p m _ => (match lookO o β with
      | some b => p + m ≤ b.n ∧ ∀ k, k < m → allP (vok o n) (b.g (p + k))
      | none => False)
    | .ag c => allP (vok o n) c
    | .tp c => allP (vok o n) c
    | .fn _ a b => allP (vok o n) a ∧ allP (vok o n) b
    | .bad => False
    | _ => True
/-- No own thing in it. -/
def owned : Nat → SV → Bool
  | 0, _ => true
  | n + 1, v => match v with
    | .pt .. | .os .. | .bad => true
    | .ag c | .tp c => c.any (owned n)
    | .fn _ a b => a.any (owned n) || b.any (owned n)
    | _ => false
/-- Nothing behind an address. -/
def scalar : Nat → SV → Bool
  | 0, _ => false
  | n + 1, v => match v with
    | .i .. | .b .. | .a .. => true
    | .ag c | .tp c => c.all (scalar n)
    | _ => false
end
end Sh
end Go.Proofs.Ytlfojfndkcmfnaa
namespace Go.Proofs.Ytlfojfndkcmfnaa
namespace Sh
open Go Ev

def Le (F G : AM) : Prop := ∀ i b, F i = some b → G i = some b
theorem Le.refl (F : AM) : Le F F := fun _ _ h => h
theorem Le.trans {F G H : AM} (a : Le F G) (b : Le G H) : Le F H := fun i x h => b i x (a i x h)
/-- Own blocks: none where there is none, where it lies and its cells an element. -/
abbrev Om := Nm → Option (Option (Nat × Nat))
def om0 : Om := fun _ => none
def Om.le (ω ψ : Om) : Prop := ∀ β x, ω β = some x → ψ β = some x
theorem om0_le (ω : Om) : Om.le om0 ω := fun _ _ h => by cases h
theorem Om.le_refl (ω : Om) : Om.le ω ω := fun _ _ h => h

/-- A slice of nothing. -/
def Z0 (u : Value) : Prop := u = .slice none 0 0 ∨ ∃ b o c, u = .slice (some ⟨b, o, none⟩) 0 c
mutual
inductive RV (F : AM) : Om → SV → Value → Prop
  | i {ω k n} : RV F ω (.i k n) (.int k n)
  | b {ω x} : RV F ω (.b x) (.bool x)
  | a {ω v} (h : simple v = true) : RV F ω (.a v) v
  | sl0 {ω z g u} (h : Z0 u) : RV F ω (.sl z 0 g) u
  | sl {ω z n g bk o c T N e zz} {L : Nat → List Value} (hF : F bk = some (.cells T N e zz)) (hz : zz = z ∨ zz = 0) (hN : o + n * z ≤ N) (hl : ∀ k, k < n → (L k).length = z)
      (ht : ∀ k, k < n → ∀ j, j < z → T.get (o + k * z + j) = (L k)[j]?) (hc : ∀ k, k < n → RVL F om0 (g k) (L k)) (h1 : ∀ k, k < n → (g k).all one1 = true) : RV F ω (.sl z n g) (.slice (some ⟨bk, o, none⟩) n c)
  | rf {ω c bk o T N e zz} {L : List Value} (hF : F bk = some (.cells T N e zz)) (hN : o + L.length ≤ N) (ht : ∀ j, j < L.length → T.get (o + j) = L[j]?) (hc : RVL F om0 c L) (h1 : c.all one1 = true) : RV F ω (.rf c) (.pointer (some ⟨bk, o, none⟩))
  | ag {ω c} {L : List Value} (h : RVL F ω c L) : RV F ω (.ag c) (.agg L.toArray)
  | tp {ω c} {L : List Value} (h : RVL F ω c L) : RV F ω (.tp c) (.tuple L.toArray)
  | fn {ω g a b} {A B : List Value} (ha : RVL F ω a A) (hb : RVL F ω b B) : RV F ω (.fn g a b) (.func (.func g) A.toArray B.toArray)
  | pt {ω β i j k z} (h : ω β = some (some (k, z))) : RV F ω (.pt β i j) (.pointer (some ⟨k, i * z + j, none⟩))
  | os {ω β o n ap c k z} (h : ω β = some (some (k, z))) (hb : ap = true → c = CU ∨ (c = n ∧ n < CU)) : RV F ω (.os β o n ap) (.slice (some ⟨k, o * z, none⟩) n c)
  | ex {ω Q v u} (hQ : Q F u) (hm : ∀ A B w, Le A B → Q A w → Q B w) (h : RV F om0 v u) : RV F ω (.ex Q v) u
  | os0 {ω β ap} (h : ω β = some none) : RV F ω (.os β 0 0 ap) (.slice none 0 0)
inductive RVL (F : AM) : Om → List SV → List Value → Prop
  | nil {ω} : RVL F ω [] []
  | cons {ω v u l L} (h : RV F ω v u) (hl : RVL F ω l L) : RVL F ω (v :: l) (u :: L)
end

section
variable {F G : AM} {ω ψ : Om}

mutual
theorem RV.mono (hF : Le F G) : ∀ {ω ψ : Om}, ω.le ψ → ∀ {v : SV} {u : Value}, RV F ω v u → RV G ψ v u
  | _, _, _, _, _, .i => .i
  | _, _, _, _, _, .b => .b
  | _, _, _, _, _, .a h => .a h
  | _, _, _, _, _, .sl0 h => .sl0 h
  | _, _, _, _, _, .sl h1 hz h2 h3 h4 h5 h6 => .sl (hF _ _ h1) hz h2 h3 h4 (fun k hk => RVL.mono hF (Om.le_refl _) (h5 k hk)) h6
  | _, _, _, _, _, .rf h1 h2 h3 h4 h5 => .rf (hF _ _ h1) h2 h3 (RVL.mono hF (Om.le_refl _) h4) h5
  | _, _, ho, _, _, .ag h => .ag (RVL.mono hF ho h)
  | _, _, ho, _, _, .tp h => .tp (RVL.mono hF ho h)
  | _, _, ho, _, _, .fn h1 h2 => .fn (RVL.mono hF ho h1) (RVL.mono hF ho h2)
  | _, _, ho, _, _, .pt h => .pt (ho _ _ h)
  | _, _, ho, _, _, .os h hb => .os (ho _ _ h) hb
  | _, _, ho, _, _, .os0 h => .os0 (ho _ _ h)
  | _, _, _, _, _, .ex h1 h2 h3 => .ex (h2 _ _ _ hF h1) h2 (RV.mono hF (Om.le_refl _) h3)
theorem RVL.mono (hF : Le F G) : ∀ {ω ψ : Om}, ω.le ψ → ∀ {v : List SV} {u : List Value}, RVL F ω v u → RVL G ψ v u
  | _, _, _, _, _, .nil => .nil
  | _, _, ho, _, _, .cons h hl => .cons (RV.mono hF ho h) (RVL.mono hF ho hl)
end

theorem RVL.length : ∀ {l : List SV} {L : List Value}, RVL F ω l L → l.length = L.length
  | _, _, .nil => rfl
  | _, _, .cons _ h => by simp [RVL.length h]
theorem RVL.get : ∀ {l : List SV} {L : List Value}, RVL F ω l L → ∀ {i : Nat} {v : SV}, l[i]? = some v → ∃ u, L[i]? = some u ∧ RV F ω v u
  | _, _, .nil, i, v, h => by simp at h
  | _, _, .cons a _, 0, v, h => by simp at h; subst h; exact ⟨_, rfl, a⟩
  | _, _, .cons _ b, i + 1, v, h => by
    obtain ⟨u, h1, h2⟩ := RVL.get b (i := i) (by simpa using h)
    exact ⟨u, by simpa using h1, h2⟩
theorem RVL.append : ∀ {l k : List SV} {L K : List Value}, RVL F ω l L → RVL F ω k K → RVL F ω (l ++ k) (L ++ K)
  | _, _, _, _, .nil, h => h
  | _, _, _, _, .cons a b, h => .cons a (b.append h)
theorem RVL.drop : ∀ {l : List SV} {L : List Value}, RVL F ω l L → ∀ (n : Nat), RVL F ω (l.drop n) (L.drop n)
  | _, _, h, 0 => by simpa using h
  | _, _, .nil, n + 1 => by simpa using RVL.nil
  | _, _, .cons _ b, n + 1 => by simpa using b.drop n
theorem RVL.take : ∀ {l : List SV} {L : List Value}, RVL F ω l L → ∀ (n : Nat), RVL F ω (l.take n) (L.take n)
  | _, _, _, 0 => by simpa using RVL.nil
  | _, _, .nil, n + 1 => by simpa using RVL.nil
  | _, _, .cons a b, n + 1 => by simpa using RVL.cons a (b.take n)

/-- Constants. -/
theorem ofV_rv {v : Value} (h : simple v = true) : RV F ω (ofV v) v := by
  unfold ofV
  split
  · exact .i
  · exact .b
  · exact .a h
theorem ofV_rvl : ∀ {l : List Value}, l.all simple = true → RVL F ω (l.map ofV) l
  | [], _ => .nil
  | v :: l, h => by
    simp only [List.all_cons, Bool.and_eq_true] at h
    exact .cons (ofV_rv h.1) (ofV_rvl h.2)
theorem constS_rv {v : Value} {x : SV} (h : constS v = some x) : constA v = some v ∧ RV F ω x v := by
  unfold constS at h
  split at h
  · cases h; exact ⟨rfl, .i⟩
  · cases h; exact ⟨rfl, .b⟩
  · rename_i cs
    split at h
    · rename_i hs
      cases h
      refine ⟨?_, ?_⟩
      · unfold constA; rw [iteB_eq, if_pos (show atomA (.agg cs) = true from hs)]
      · have := RV.ag (F := F) (ω := ω) (ofV_rvl hs)
        simpa using this
    · cases h
  · split at h
    · rename_i hs
      cases h
      refine ⟨?_, .a hs⟩
      unfold constA
      rw [iteB_eq, if_pos]
      cases v <;> first | exact hs | rfl | cases hs
    · cases h
end
end Sh
end Go.Proofs.Ytlfojfndkcmfnaa
