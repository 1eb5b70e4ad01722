/- The hooks of a seat with facts. -/
import Derived.Test.YtegpikhfnhcjaaaGreatRvX
import Derived.Test.YtegpikhfnhcjaaaGreatRvY
import Derived.Test.YtegpikhfnhcjaaaGreatRvL
namespace Go.Proofs.YtegpikhfnhcjaaaGreat
namespace Ev
open Go Go.RowKit
def hkC (cs : List Chunk) : Hooks := ⟨some 45, some 143, some 32, symB, cs, some 57⟩
def hk (fs : List Fact) : Hooks := hkC [⟨1000000000000, fs⟩]
def AllOk (fs : List Fact) : Prop := ∀ f ∈ fs, FactOk Tryz.prog f
def ChunksOk (cs : List Chunk) : Prop := ∀ c ∈ cs, AllOk c.l
theorem hkC_ok {cs : List Chunk} (h : ChunksOk cs) : HooksOk Tryz.prog (hkC cs) :=
  ⟨fun g h => (by cases h; exact catch_ok), fun g h => (by cases h; exact indexByte_ok), fun g h => (by cases h; exact symm_ok), h, fun g h => (by cases h; exact links_ok)⟩
theorem ChunksOk.nil : ChunksOk [] := fun c hc => by cases hc
theorem ChunksOk.cons {n : Nat} {l : List Fact} {cs : List Chunk} (h : AllOk l) (t : ChunksOk cs) : ChunksOk (⟨n, l⟩ :: cs) := fun c hc => by
  rcases List.mem_cons.1 hc with rfl | hc
  · exact h
  · exact t c hc
theorem hk_ok {fs : List Fact} (h : AllOk fs) : HooksOk Tryz.prog (hk fs) := hkC_ok (ChunksOk.cons h ChunksOk.nil)
theorem AllOk.nil : AllOk [] := fun f hf => by cases hf
theorem AllOk.cons {f : Fact} {l : List Fact} (h : FactOk Tryz.prog f) (t : AllOk l) : AllOk (f :: l) := fun x hx => by
  rcases List.mem_cons.1 hx with rfl | hx
  · exact h
  · exact t x hx
theorem AllOk.at_ {f : Fact} {l : List Fact} (h : AllOk l) (i : Nat) (e : l[i]? = some f) : FactOk Tryz.prog f := h f (List.mem_of_getElem? e)
theorem AllOk.append {a b : List Fact} (ha : AllOk a) (hb : AllOk b) : AllOk (a ++ b) := fun f hf => by
  rcases List.mem_append.1 hf with h | h
  · exact ha f h
  · exact hb f h
/-- A list of facts, borne out over facts that are known. -/
theorem AllOk.check {fs new : List Fact} (h : AllOk fs) (hc : new.all (fun f => f.check Tryz.prog (hk fs)) = true) : AllOk new := fun f hf =>
  fact_checked (ev_sound mix noNum (hk_ok h) 3000) (List.all_eq_true.1 hc f hf)
/-- Facts, each borne out over those ahead of it. -/
noncomputable def checkSeq (new : List Fact) : List Fact → Bool := List.rec (fun _ => true) (fun f _ ih fs => f.check Tryz.prog (hk fs) && ih (f :: fs)) new
theorem AllOk.seq : ∀ {new fs : List Fact}, AllOk fs → checkSeq new fs = true → AllOk new
  | [], _, _, _ => AllOk.nil
  | f :: l, fs, h, hc => by
    have hc : (f.check Tryz.prog (hk fs) && checkSeq l (f :: fs)) = true := hc
    rw [Bool.and_eq_true] at hc
    have hf : FactOk Tryz.prog f := fact_checked (ev_sound mix noNum (hk_ok h) 3000) hc.1
    have hfs : AllOk (f :: fs) := fun x hx => by
      rcases List.mem_cons.1 hx with rfl | hx
      · exact hf
      · exact h x hx
    have hl := AllOk.seq hfs hc.2
    intro x hx
    rcases List.mem_cons.1 hx with rfl | hx
    · exact hf
    · exact hl x hx
/-- One fact, over facts that are looked up by block numbers. -/
theorem AllOk.one {f : Fact} {cs : List Chunk} (h : ChunksOk cs) (hc : f.check Tryz.prog (hkC cs) = true) : AllOk [f] :=
  AllOk.cons (fact_checked (ev_sound mix noNum (hkC_ok h) 3000) hc) AllOk.nil
def by8 (l : List Nat) : ByteArray := ⟨(l.map Nat.toUInt8).toArray⟩
end Ev
end Go.Proofs.YtegpikhfnhcjaaaGreat
