/- Plain words: variables of a program, and the reference's configurations. -/
import Derived.Test.YtegpikhfnhcjaaaGreatPlainG
namespace Go.Proofs.YtegpikhfnhcjaaaGreat

structure VarR where
  name : ByteArray
  kind : Int
  lo : Int
  hi : Int
  perNode : Int
  perID : Int

def varE : Elem VarR := fun w b o x => w.cell? ⟨b, o, none⟩ = some (.string x.name) ∧ w.cell? ⟨b, o + 1, none⟩ = some (.int .i64 x.kind) ∧ w.cell? ⟨b, o + 2, none⟩ = some (.int .i64 x.lo) ∧ w.cell? ⟨b, o + 3, none⟩ = some (.int .i64 x.hi) ∧
  w.cell? ⟨b, o + 4, none⟩ = some (.int .i64 x.perNode) ∧ w.cell? ⟨b, o + 5, none⟩ = some (.int .i64 x.perID)
theorem Stable.var : Stable varE := fun _ _ _ _ _ h _ hx => ⟨h _ _ hx.1, h _ _ hx.2.1, h _ _ hx.2.2.1, h _ _ hx.2.2.2.1, h _ _ hx.2.2.2.2.1, h _ _ hx.2.2.2.2.2⟩
abbrev VarsAt := SlAt 6 varE

/-- Numbers of a variable that fit. -/
def VarFit (x : VarR) : Prop := (0 ≤ x.lo ∧ x.lo ≤ 100000) ∧ (-100000 ≤ x.hi ∧ x.hi ≤ 100000) ∧ (0 ≤ x.perNode ∧ x.perNode ≤ 1000) ∧ (0 ≤ x.perID ∧ x.perID ≤ 1000)

def boundV (g : Gr) (v : Nat) (x : VarR) : Int × Int :=
  if x.kind = 2 then (0, 1) else if x.kind = 3 then (-1, (degOf g v : Int) - 1) else (x.lo, x.hi + x.perNode * (g.ports.length : Int) + x.perID * topID g)
def boundsV (g : Gr) (vars : List VarR) (v : Nat) : Bounds := vars.map (boundV g v)
def refConfB (g : Gr) (c : Conf) (vars : List VarR) : Bool := validB g && confB g.ports.length (boundsV g vars) c

theorem topID_snoc (ids : List Int) (k : Nat) (hk : k < ids.length) : (ids.take (k + 1)).foldl max 0 = max ((ids.take k).foldl max 0) ids[k] := by
  rw [take_snoc ids k hk, List.foldl_append]
  rfl
theorem foldl_max_le (D : List Int) (m : Int) (h : ∀ x ∈ D, x ≤ m) : ∀ a : Int, a ≤ m → D.foldl max a ≤ m := by
  induction D with
  | nil => intro a ha; exact ha
  | cons x D ih => intro a ha; exact ih (fun y hy => h y (by simp [hy])) _ (Int.max_le.2 ⟨ha, h x (by simp)⟩)
theorem topID_range {g : Gr} (hg : GoodG g) : 0 ≤ topID g ∧ topID g ≤ 255 := ⟨foldl_max_ge _ _, foldl_max_le _ _ (fun x hx => (hg.2.2.2.1 x hx).2) _ (by omega)⟩
end Go.Proofs.YtegpikhfnhcjaaaGreat
