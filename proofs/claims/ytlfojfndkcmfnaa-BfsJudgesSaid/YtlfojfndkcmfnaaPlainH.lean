/- Plain words: pointers, right states; chapter 23. -/
import Derived.Test.YtlfojfndkcmfnaaPlainG
import Derived.Test.YtlfojfndkcmfnaaSmall
namespace Go.Proofs.Ytlfojfndkcmfnaa

/-- Where port y of node v leads, -1 if y is below 0. -/
def portOf (g : Gr) (v : Nat) (y : Int) : Int := if 0 ≤ y then ((g.ports.getD v []).getD y.toNat (0, 0)).1 else -1
def towardsP (g : Gr) (c : Conf) (x : Nat) : List Int := c.zipIdx.map (fun p => portOf g p.2 (p.1.getD x 0))
/-- Variable x of each state is a port of its node, or below 0. -/
def PortVar (g : Gr) (c : Conf) (x : Nat) : Prop := ∀ (v : Nat) s, c[v]? = some s → ∃ y, s[x]? = some y ∧ (0 ≤ y → y < degOf g v)

def towardP (D : List Int) (v : Nat) (l : Int × Int) : Bool := D.getD l.1.toNat 0 == D.getD v 0 - 1
def wayP (g : Gr) (D : List Int) (v : Nat) : Int := firstP (towardP D v) (g.ports.getD v [])
def rightB (g : Gr) (D : List Int) (v : Nat) (s : List Int) : Bool := decide (s = [D.getD v 0, wayP g D v])

theorem towardsP_length (g : Gr) (c : Conf) (x : Nat) : (towardsP g c x).length = c.length := by simp [towardsP]
theorem towardsP_get (g : Gr) (c : Conf) (x v : Nat) (s : List Int) (hs : c[v]? = some s) : (towardsP g c x)[v]? = some (portOf g v (s.getD x 0)) := by
  simp [towardsP, List.getElem?_zipIdx, hs]
end Go.Proofs.Ytlfojfndkcmfnaa
