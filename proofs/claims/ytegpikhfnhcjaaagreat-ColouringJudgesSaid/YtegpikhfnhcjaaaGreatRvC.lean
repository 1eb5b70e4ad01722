/- Loops over the links of a graph: the evaluator is sound there. -/
import Derived.Test.YtegpikhfnhcjaaaGreatRvB
namespace Go.Proofs.YtegpikhfnhcjaaaGreat
namespace Ev
open Go Go.RowKit

section
variable {P : Program} {self : Task → Option Out} {φ φ' : Phi} {M M' : AM} {w w' : World} {f f' : Fr} {m m' m'' : Mem} {a : Act}

theorem hit_some {g : Nat} {h : Option Nat} (e : hit g h = true) : h = some g := by
  unfold hit at e
  split at e
  · rw [Nat.eq_of_beq_eq_true e]
  · cases e
theorem SoundC.task {c : Code} {e : Exit} (h : Wf m → SoundC P c f m e f' m') : SoundT P (.code c f m) (.code e f' m') := fun hw => ⟨(h hw).1.ext, (h hw).1.low, (h hw).2⟩
def El.enc (x : El) : Array Value := #[x.v0, x.v1]
/-- What a function that yields the links of a graph does, whatever its rounds do, so long as the graph lies as it lay. -/
def IterOk (P : Program) (g : FuncId) : Prop := (∀ args w, (callFunc g args).run P w = .ok (.enter g args) w) ∧
  ∀ (l : Nat) (A : Addr) (gv : GV) (St : List El → Phi → AM → World → Prop) (Stop : World → Prop) (φ : Phi) (M : AM) (w : World) (box : Value),
    (∀ pre φ M w, St pre φ M w → ∃ m, Rel φ M w ∧ Sub m M ∧ graphOf m A = some gv) →
    (∀ pre φ M w w', St pre φ M w → Below w.heap.size w w' → St pre φ M w') →
    (∀ pre x post φ M w, St pre φ M w → flatAt 0 gv.ps = pre ++ x :: post → YieldAt Fence.wide 0 P l x.enc w fun e w' =>
      (e = .returned (.bool true) ∧ ∃ φ' M', φ.le φ' ∧ St (pre ++ [x]) φ' M' w') ∨ (e = .returned (.bool false) ∧ Stop w')) →
    St [] φ M w → VR φ (.pointer (some A)) box →
    CallsIn Fence.wide 0 P g #[.func (.yield l) #[] #[], box] w fun e w' => (∃ v, e = .returned v) ∧ ((∃ φ' M', St (flatAt 0 gv.ps) φ' M' w') ∨ Stop w')

theorem Img.not_loop (hR : Rel φ M w) {k : Nat} {x : Loop} (h : w.heap[k]? = some (.loop x)) : ¬ Img φ M k := by
  rintro ⟨i, b, l, h1, h2, rfl⟩
  obtain ⟨l', h3, h4⟩ := hR.blk i b h1
  rw [h2] at h3
  cases h3
  cases b with
  | cells c n e z => obtain ⟨_, _, cs, h5, _⟩ := h4; rw [h] at h5; cases h5
  | map es cl => have h5 : w.heap[l.blk]? = some (.map es cl) := h4; rw [h] at h5; cases h5
/-- A block of book-keeping is written. -/
theorem Good.put (h : Good φ M w m m' φ' M' w') {l : Nat} {x : Obj} (hl : ¬ Img φ' M' l) (hlo : w.heap.size ≤ l) : Good φ M w m m' φ' M' (w'.putObj l x) := by
  refine ⟨h.le, h.out, ⟨fun i b hb => ?_, h.rel.inj⟩, h.sub, h.frame, ?_⟩
  · obtain ⟨lc, q1, q2⟩ := h.rel.blk i b hb
    exact ⟨lc, q1, q2.keep (World.putObj_heap_other fun e => hl ⟨i, b, lc, hb, q1, e⟩)⟩
  · have hg := h.wg
    refine ⟨hg.os, hg.tape, hg.output, by simp; exact hg.size, fun k hk hn => ?_, hg.img⟩
    rw [World.putObj_heap_other (by omega)]
    exact hg.keep k hk hn
theorem Good.below (h : Good φ M w m m' φ' M' w') {w'' : World} (hb : Below w'.heap.size w' w'') : Good φ M w m m' φ' M' w'' :=
  ⟨h.le, h.out, h.rel.keep fun k hk => hb.block k hk, h.sub, h.frame,
    h.wg.trans ⟨hb.os, hb.tape, hb.output, hb.size, fun k hk _ => hb.block k hk, fun _ _ q => q⟩⟩

theorem evRounds_cons {p q : Nat} {assign body : Code} {ok : Mem → Bool} {x : El} {l : List El} {out : Out} (h : evRounds self f p q assign body ok (x :: l) m = some out) :
    ok m = true ∧ ∃ f1 f2 f3 m1 o2, Fr.putD x.v0 p f = some f1 ∧ Fr.putD x.v1 q f1 = some f2 ∧ self (.code assign f2 m) = some (.code .normal f3 m1) ∧ self (.code body f3 m1) = some o2 ∧
      afterRound f (evRounds self f p q assign body ok l) o2 = some out := by
  change iteB (ok m) (ob (evRound self f p q assign body x m) (afterRound f (evRounds self f p q assign body ok l))) none = some out at h
  obtain ⟨h1, h2⟩ := iteB_some h
  obtain ⟨o2, h3, h4⟩ := ob_some h2
  unfold evRound at h3
  rw [forceN_eq] at h3
  obtain ⟨f1, k1, h5⟩ := ob_some h3
  obtain ⟨f2, k2, h6⟩ := ob_some h5
  obtain ⟨o1, k3, h7⟩ := ob_some h6
  unfold bodyRound at h7
  split at h7
  · rename_i f3 m1
    exact ⟨h1, f1, f2, f3, m1, o2, k1, k2, k3, h7, h4⟩
  · cases h7
theorem evRounds_nil {p q : Nat} {assign body : Code} {ok : Mem → Bool} {out : Out} (h : evRounds self f p q assign body ok [] m = some out) : ok m = true ∧ out = .code .normal f m := by
  change iteB (ok m) (some (.code .normal f m)) none = some out at h
  obtain ⟨h1, h2⟩ := iteB_some h
  cases h2
  exact ⟨h1, rfl⟩
theorem evRounds_ok {p q : Nat} {assign body : Code} {ok : Mem → Bool} {l : List El} {out : Out} (h : evRounds self f p q assign body ok l m = some out) : ok m = true := by
  cases l with
  | nil => exact (evRounds_nil h).1
  | cons x l => exact (evRounds_cons h).1
theorem evRounds_grow (hself : SelfOk P self) {p q : Nat} {assign body : Code} {ok : Mem → Bool} : ∀ {l : List El} {m : Mem} {out : Out}, evRounds self f p q assign body ok l m = some out → Wf m → ∃ e m', out = .code e f m' ∧ Grow m m'
  | [], m, out, h, hw => by
    obtain ⟨_, rfl⟩ := evRounds_nil h
    exact ⟨_, m, rfl, Grow.refl hw⟩
  | x :: l, m, out, h, hw => by
    obtain ⟨_, f1, f2, f3, m1, o2, _, _, k3, k4, k5⟩ := evRounds_cons h
    obtain ⟨e1, g1, n1, q1, s1⟩ := self_code hself k3 hw
    cases q1
    obtain ⟨e2, g2, n2, q2, s2⟩ := self_code hself k4 s1.1.ext.wf
    subst q2
    have hg := s1.1.trans s2.1
    cases e2 with
    | normal =>
      obtain ⟨e, m', r1, r2⟩ := evRounds_grow hself (l := l) k5 s2.1.ext.wf
      exact ⟨e, m', r1, hg.trans r2⟩
    | ret => cases k5; exact ⟨_, _, rfl, hg⟩
    | exit id => cases k5; exact ⟨_, _, rfl, hg⟩
    | _ => cases k5

theorem FrR.putD {v v' : Value} {k : Nat} {f1 : Fr} (h : FrR φ f a) (hp : Fr.putD v k f = some f1) (hv : VR φ v v') : FrR φ f1 (a.put (some k) v') := FrR.put (d := some k) h hp hv

theorem eqLk_eq : ∀ {x y : List (Int × Int)}, eqLk x y = true → x = y
  | [], [], _ => rfl
  | x :: l, y :: k, h => by
    have h : (eqInt x.1 y.1 && eqInt x.2 y.2 && eqLk l k) = true := h
    simp only [Bool.and_eq_true] at h
    rw [eqLk_eq h.2]
    congr 1
    exact Prod.ext (eqInt_eq h.1.1) (eqInt_eq h.1.2)
  | [], _ :: _, h => by cases h
  | _ :: _, [], h => by cases h
theorem eqPs_eq : ∀ {x y : List (List (Int × Int))}, eqPs x y = true → x = y
  | [], [], _ => rfl
  | x :: l, y :: k, h => by
    have h : (eqLk x y && eqPs l k) = true := h
    simp only [Bool.and_eq_true] at h
    rw [eqPs_eq h.2, eqLk_eq h.1]
  | [], _ :: _, h => by cases h
  | _ :: _, [], h => by cases h
theorem sameG_eq {A : Addr} {gv : GV} (h : sameG A gv m = true) : graphOf m A = some gv := by
  unfold sameG at h
  split at h
  · rename_i k hk
    simp only [Bool.and_eq_true] at h
    rw [hk]
    obtain ⟨v, us, ps⟩ := k
    obtain ⟨v', us', ps'⟩ := gv
    have e1 : v = v' := eq1_eq h.1.1
    have e2 : us = us' := eqL1_eq h.1.2
    have e3 : ps = ps' := eqPs_eq h.2
    rw [e1, e2, e3]
  · cases h
theorem evRounds_out {p q : Nat} {assign body : Code} {ok : Mem → Bool} : ∀ {l : List El} {m : Mem} {out : Out}, evRounds self f p q assign body ok l m = some out → ∃ e m', out = .code e f m'
  | [], m, out, h => ⟨_, m, (evRounds_nil h).2⟩
  | x :: l, m, out, h => by
    obtain ⟨_, f1, f2, f3, m1, o2, _, _, _, _, k5⟩ := evRounds_cons h
    unfold afterRound at k5
    split at k5
    · exact evRounds_out (l := l) k5
    · cases k5; exact ⟨_, _, rfl⟩
    · cases k5; exact ⟨_, _, rfl⟩
    · cases k5

set_option maxHeartbeats 1000000 in
theorem range_sound {lk : Option Nat} (hlk : ∀ g, lk = some g → IterOk P g) (hself : SelfOk P self) {gx : Operand} {ps : Array Tmp} {assign body : Code} {v : Value} {out : Out}
    (hv : f.get gx = some v) (h : evRange self lk f m ps.toList assign body v = some out) : SoundT P (.code (.rangeFunc gx ps assign body) f m) out := by
  unfold evRange at h
  split at h
  · rename_i g first captured
    split at h
    · rename_i p q A hps hfirst hcap
      obtain ⟨hc, h2⟩ := iteB_some h
      simp only [Bool.and_eq_true] at hc
      obtain ⟨⟨hg, hna⟩, hnb⟩ := hc
      obtain ⟨gv, hgv, h3⟩ := ob_some h2
      have hit := hlk g (hit_some hg)
      obtain ⟨e0, mf, rfl⟩ := evRounds_out h3
      have hps' : ps = #[p, q] := Array.toList_inj.1 hps
      refine SoundC.task fun hw => ⟨?_, fun φ M w a r hnr hR hs hf hfr => ?_⟩
      · obtain ⟨e, m', q1, q2⟩ := evRounds_grow hself h3 hw
        cases q1
        exact q2
      · obtain rfl : r = none := by
          cases r with
          | none => rfl
          | some l => exact absurd (hnr rfl) (by simp [noRF])
        have hvr := get_sound (a := a) (fun t v _ ht => hf.get t v ht) hv
        obtain ⟨x', y', e1, e2, e3⟩ := hvr.func_inv
        rw [hfirst] at e2
        rw [hcap] at e3
        cases e2
        obtain ⟨box, rfl, hbox⟩ := vrl_one e3
        refine wpIn_rangeFunc ?_
        intro fn _
        obtain ⟨rec, hrec⟩ : ∃ rec : LoopState → Option Code → Loop, rec = fun st pe => { state := st, pending := pe, fn, tmps := a.tmps, params := ps, assign, body, defers := w.heap.size } := ⟨_, rfl⟩
        obtain ⟨W1, hW1⟩ : ∃ W1, (w.alloc (.deferred (some []))).alloc (.loop (rec .ready none)) = W1 := ⟨_, rfl⟩
        have hL1 : W1.heap[w.heap.size + 1]? = some (.loop (rec .ready none)) := by
          rw [← hW1]; have := World.alloc_heap_new (w.alloc (.deferred (some []))) (.loop (rec .ready none)); rwa [World.size_alloc] at this
        have hK1 : W1.heap[w.heap.size]? = some (.deferred (some [])) := by
          rw [← hW1]; exact (Below.heap_alloc _ _ _ (by simp)).trans (World.alloc_heap_new w _)
        have hb1 : Below w.heap.size w W1 := by
          rw [← hW1]; exact ((Below.refl _ w).alloc (Nat.le_refl _) _).alloc (by simp) _
        refine ⟨w.heap.size + 1, [{ target := .collected w.heap.size, args := #[] }], W1, { target := .fn (.func g) #[box], args := #[.func (.yield (w.heap.size + 1)) #[] #[]] }, W1, g,
          #[.func (.yield (w.heap.size + 1)) #[] #[], box], W1, ?_, ?_, fun _ _ => trivial, ?_, fun q => (by cases q), ?_⟩
        · rw [← hW1, hrec]; exact run_enterLoop_outer _ _ _ _ _
        · simp only [resolve, e1]
          simp [go_sem]
        · simp [invoke, go_sem, hit.1]
        · let St : List El → Phi → AM → World → Prop := fun pre φ' M' W => ∃ rest mi, flatAt 0 gv.ps = pre ++ rest ∧ evRounds self f p q assign body (sameG A gv) rest mi = some (.code e0 f mf) ∧ Grow m mi ∧ Good φ M w m mi φ' M' W ∧
            W.heap[w.heap.size + 1]? = some (.loop (rec .ready none)) ∧ W.heap[w.heap.size]? = some (.deferred (some []))
          let Stop : World → Prop := fun W => ∃ c φ' M', ((c = Code.ret ∧ e0 = .ret) ∨ ∃ id, c = .exit id ∧ e0 = .exit id) ∧ Good φ M w m mf φ' M' W ∧
            W.heap[w.heap.size + 1]? = some (.loop (rec .done (some c))) ∧ W.heap[w.heap.size]? = some (.deferred (some []))
          refine CallsIn.mono (hit.2 (w.heap.size + 1) A gv St Stop φ M W1 box ?_ ?_ ?_ ?_ hbox) ?_
          · rintro pre φ' M' W ⟨rest, mi, _, k2, _, k4, _⟩
            exact ⟨mi, k4.rel, k4.sub, sameG_eq (evRounds_ok k2)⟩
          · rintro pre φ' M' W W' ⟨rest, mi, k1, k2, k3, k4, k5, k6⟩ hb
            exact ⟨rest, mi, k1, k2, k3, k4.below hb, (hb.block _ (Array.getElem?_eq_some_iff.1 k5).1).trans k5, (hb.block _ (Array.getElem?_eq_some_iff.1 k6).1).trans k6⟩
          · rintro pre x post φ' M' W ⟨rest, mi, k1, k2, k3, hgd, hl, hd⟩ hfl
            rw [k1] at hfl
            have hrest : rest = x :: post := List.append_cancel_left hfl
            subst hrest
            obtain ⟨_, f1, f2, f3, m1, o2, p1, p2, p3, p4, p5⟩ := evRounds_cons k2
            obtain ⟨e1', g1, n1, q1, s1⟩ := self_code hself p3 k3.ext.wf
            cases q1
            obtain ⟨e2', g2, m2, q2, s2⟩ := self_code hself p4 s1.1.ext.wf
            subst q2
            have hm2 : m2.next ≤ mf.next := by
              cases e2' with
              | normal =>
                obtain ⟨e, m', r1, r2⟩ := evRounds_grow hself (l := post) p5 s2.1.ext.wf
                cases r1
                exact r2.ext.next
              | ret => cases p5; exact Nat.le_refl _
              | exit id => cases p5; exact Nat.le_refl _
              | _ => cases p5
            have hfr1 : Fresh φ' mi.next mf.next := hgd.fresh k3.ext hfr
            have hlt : w.heap.size + 1 < W.heap.size := (Array.getElem?_eq_some_iff.1 hl).1
            have hy := run_yield (P := P) (args := x.enc) hl (by rw [hrec, hps']; rfl)
            rw [hrec] at hy
            refine ⟨fn, _, assign, body, hy, roundIn_of_wpIn (F := Fence.wide) (n := 0) trivial ?_⟩
            have hfr0 := ((hf.mono hgd.le).putD p1 (VR.simple (v := x.v0) rfl)).putD p2 (VR.atomA (v := x.v1) rfl)
            have hfr2 : FrR φ' f2 { tmps := (ps.zip x.enc).foldl (fun tmps (t, a) => tmps.setIfInBounds t a) a.tmps, defers := [] } := by
              have et : (ps.zip x.enc).foldl (fun tmps (t, a) => tmps.setIfInBounds t a) a.tmps = ((a.put (some p) x.v0).put (some q) x.v1).tmps := by
                rw [hps']
                simp [El.enc, Act.put]
              rw [et]
              exact ⟨hfr0.size, hfr0.get⟩
            refine wpIn_mono (s1.2 φ' M' W _ (some (w.heap.size + 1)) (fun _ => hna) hgd.rel hgd.sub hfr2 (hfr1.left (Nat.le_trans s2.1.ext.next hm2))) ?_
            rintro e' a1 w1 ⟨rfl, φ1, M1, hg1, hf1, _⟩
            have hl1 : w1.heap[w.heap.size + 1]? = some (.loop (rec .ready none)) := (hg1.wg.keep _ hlt (Img.not_loop hgd.rel hl)).trans hl
            have hd1 : w1.heap[w.heap.size]? = some (.deferred (some [])) := (hg1.wg.keep _ (by omega) (Img.not_deferred hgd.rel hd)).trans hd
            have hlt1 : w.heap.size + 1 < w1.heap.size := (Array.getElem?_eq_some_iff.1 hl1).1
            refine ⟨_, run_beginRound hl1 (by rw [hrec]), ?_⟩
            have G1 : Good φ M w m m1 φ1 M1 w1 := Good.trans k3.ext s1.1.ext s1.1.low hgd hg1
            have G1' := G1.put (l := w.heap.size + 1) (x := .loop { rec .ready none with state := .busy }) (Img.not_loop hg1.rel hl1) (by omega)
            have hlb : (w1.putObj (w.heap.size + 1) (.loop { rec .ready none with state := .busy })).heap[w.heap.size + 1]? = some (.loop { rec .ready none with state := .busy }) := World.putObj_heap_same hlt1
            have hdb : (w1.putObj (w.heap.size + 1) (.loop { rec .ready none with state := .busy })).heap[w.heap.size]? = some (.deferred (some [])) := (World.putObj_heap_other (by omega)).trans hd1
            refine wpIn_mono (s2.2 φ1 M1 _ a1 (some (w.heap.size + 1)) (fun _ => hnb) G1'.rel G1'.sub hf1 ((hg1.fresh s1.1.ext hfr1).left hm2)) ?_
            rintro e' a2 w2 ⟨rfl, φ2, M2, hg2, _, _⟩
            have hltb : w.heap.size + 1 < (w1.putObj (w.heap.size + 1) (.loop { rec .ready none with state := .busy })).heap.size := (Array.getElem?_eq_some_iff.1 hlb).1
            have hl2 := (hg2.wg.keep _ hltb (Img.not_loop G1'.rel hlb)).trans hlb
            have hd2 := (hg2.wg.keep _ (Array.getElem?_eq_some_iff.1 hdb).1 (Img.not_deferred G1'.rel hdb)).trans hdb
            have hlt2 : w.heap.size + 1 < w2.heap.size := (Array.getElem?_eq_some_iff.1 hl2).1
            have G2 : Good φ M w m m2 φ2 M2 w2 := Good.trans (k3.trans s1.1).ext s2.1.ext s2.1.low G1' hg2
            have hle2 : φ'.le φ2 := Phi.le_trans hg1.le hg2.le
            have fin : ∀ (jump : Option Code), (w2.putObj (w.heap.size + 1) (.loop (rec (if jump.isNone then .ready else .done) jump))).heap[w.heap.size + 1]? = some (.loop (rec (if jump.isNone then .ready else .done) jump)) ∧
                (w2.putObj (w.heap.size + 1) (.loop (rec (if jump.isNone then .ready else .done) jump))).heap[w.heap.size]? = some (.deferred (some [])) ∧ Good φ M w m m2 φ2 M2 (w2.putObj (w.heap.size + 1) (.loop (rec (if jump.isNone then .ready else .done) jump))) ∧
                (Instr.endRound (w.heap.size + 1) jump).run P w2 = .ok (.bool jump.isNone) (w2.putObj (w.heap.size + 1) (.loop (rec (if jump.isNone then .ready else .done) jump))) := fun jump => by
              refine ⟨World.putObj_heap_same hlt2, (World.putObj_heap_other (by omega)).trans hd2, G2.put (Img.not_loop hg2.rel hl2) (by omega), ?_⟩
              have := run_endRound (P := P) jump hl2
              rw [hrec] at this ⊢
              exact this
            cases e' with
            | normal =>
              obtain ⟨a1', a2', a3', a4'⟩ := fin none
              exact ⟨_, _, a4', .inl ⟨rfl, φ2, M2, hle2, post, m2, by rw [k1]; simp, p5, (k3.trans s1.1).trans s2.1, a3', a1', a2'⟩⟩
            | ret =>
              obtain ⟨a1', a2', a3', a4'⟩ := fin (some .ret)
              cases p5
              exact ⟨_, _, a4', .inr ⟨rfl, .ret, φ2, M2, .inl ⟨rfl, rfl⟩, a3', a1', a2'⟩⟩
            | exit id =>
              obtain ⟨a1', a2', a3', a4'⟩ := fin (some (.exit id))
              cases p5
              exact ⟨_, _, a4', .inr ⟨rfl, .exit id, φ2, M2, .inr ⟨id, rfl, rfl⟩, a3', a1', a2'⟩⟩
            | _ => cases p5
          · refine ⟨flatAt 0 gv.ps, m, rfl, h3, Grow.refl hw, (Good.refl hR hs).below hb1, hL1, hK1⟩
          · have fin : ∀ {φ' M' W c st}, st ≠ .busy → Good φ M w m mf φ' M' W → W.heap[w.heap.size + 1]? = some (.loop (rec st c)) → W.heap[w.heap.size]? = some (.deferred (some [])) →
                ∃ w4, (Instr.endLoop (w.heap.size + 1)).run P W = .ok c w4 ∧ Good φ M w m mf φ' M' w4 ∧ FrR φ' f { a with defers := [{ target := .collected w.heap.size, args := #[] }] ++ a.defers } ∧
                  Df w w4 a { a with defers := [{ target := .collected w.heap.size, args := #[] }] ++ a.defers } := by
              intro φ' M' W c st hst hgd hl hd
              have hlt : w.heap.size + 1 < W.heap.size := (Array.getElem?_eq_some_iff.1 hl).1
              have hrun := run_endLoop (P := P) hl (by rw [hrec]; exact hst)
              have hpend : (rec st c).pending = c := by rw [hrec]
              rw [hpend] at hrun
              refine ⟨_, hrun, hgd.put (Img.not_loop hgd.rel hl) (by omega), ⟨(hf.mono hgd.le).size, (hf.mono hgd.le).get⟩, [{ target := .collected w.heap.size, args := #[] }], rfl, ?_, fun d hd' => ?_⟩
              · exact List.pairwise_singleton _ _
              · rw [List.mem_singleton] at hd'
                subst hd'
                exact ⟨w.heap.size, Nat.le_refl _, rfl, (World.putObj_heap_other (by omega)).trans hd⟩
            rintro e W ⟨⟨v, rfl⟩, (⟨φ', M', rest, mi, k1, k2, k3, hgd, hl, hd⟩ | ⟨c, φ', M', hc, hgd, hl, hd⟩)⟩
            · have hrest : rest = [] := by
                have := congrArg List.length k1
                rw [List.length_append] at this
                exact List.eq_nil_of_length_eq_zero (by omega)
              subst hrest
              obtain ⟨_, k5⟩ := evRounds_nil k2
              cases k5
              obtain ⟨w4, r1, r2, r3, r4⟩ := fin (by simp) hgd hl hd
              exact ⟨none, w4, r1, rfl, φ', M', r2, r3, r4⟩
            · obtain ⟨w4, r1, r2, r3, r4⟩ := fin (by simp) hgd hl hd
              rcases hc with ⟨rfl, rfl⟩ | ⟨id, rfl, rfl⟩
              · exact ⟨some .ret, w4, r1, wpIn_ret ⟨rfl, φ', M', r2, r3, r4⟩⟩
              · exact ⟨some (.exit id), w4, r1, wpIn_exit ⟨rfl, φ', M', r2, r3, r4⟩⟩
    · cases h
  · cases h

end
end Ev
end Go.Proofs.YtegpikhfnhcjaaaGreat
