/- occupancy: AtMost, AtLeast. -/
import Derived.Test.YtnedgbebajhcpaaGreatDoorOcU
set_option linter.unusedVariables false
set_option linter.unusedSimpArgs false
set_option maxRecDepth 100000
namespace Go.Proofs.YtnedgbebajhcpaaGreatDoor
open Go.RowKit Num

theorem NatsV.below {B : Nat} {w w' : World} {v : Value} {ns : List Nat} (h : NatsV B w v ns) (hE : Ext w w') : NatsV B w' v ns := h.ext hE
/-- So many of the first places count. -/
def mostN (n : Nat) (d : Int) : Nat := min (d + 1).toNat (n + 1)
def mostQ (n D : Nat) (d : Int) : Rat := frac false (sumTo (occ n D) (mostN n d)) (D ^ n)
def leastQ (n D : Nat) (d : Int) : Rat := frac false (D ^ n - sumTo (occ n D) (min d.toNat (n + 1))) (D ^ n)
theorem occ_mem_len {n D : Nat} (hn : n ≤ 30) (hD : D ≤ 60) : ∀ x ∈ upto_ (occ n D) (n + 1), (limbsOf x).length ≤ 32 := by
  intro x hx
  obtain ⟨k, _, rfl⟩ := List.mem_map.1 hx
  exact occ_len (by omega) hD

end Go.Proofs.YtnedgbebajhcpaaGreatDoor
