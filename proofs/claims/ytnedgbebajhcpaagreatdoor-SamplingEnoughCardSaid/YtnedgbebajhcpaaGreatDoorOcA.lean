/- occupancy: check, chance, Chance. -/
import Derived.Test.YtnedgbebajhcpaaGreatDoorCntP
import Derived.Test.YtnedgbebajhcpaaGreatDoorFres
import Derived.Test.YtnedgbebajhcpaaGreatDoorOccQ
set_option linter.unusedVariables false
set_option linter.unusedSimpArgs false
set_option maxRecDepth 100000
namespace Go.Proofs.YtnedgbebajhcpaaGreatDoor
open Go.RowKit Num

theorem cell_put {w : World} {b c : Nat} {v : Value} (h : w.cell? ⟨c, 0, none⟩ = some v) (hne : b ≠ c) (x y z : Value) : (((w.setCell ⟨b, 0, none⟩ x).setCell ⟨b, 1, none⟩ y).setCell ⟨b, 2, none⟩ z).cell? ⟨c, 0, none⟩ = some v := by
  have ne : ∀ i : Nat, (⟨b, i, none⟩ : Addr) ≠ ⟨c, 0, none⟩ := fun i e => by injection e with e1; exact hne e1
  rw [World.cell?_setCell_other _ _ _ _ (ne 2), World.cell?_setCell_other _ _ _ _ (ne 1), World.cell?_setCell_other _ _ _ _ (ne 0)]
  exact h
/-- The numbers are within their limits. -/
def OccIn (n D : Int) : Prop := (0 ≤ n ∧ n ≤ 30) ∧ (1 ≤ D ∧ D ≤ 60)
theorem ocheck_ok {n D : Int} {w : World} (h1 : 0 ≤ n ∧ n ≤ 30) (h2 : 1 ≤ D ∧ D ≤ 60) : Calls Tryz.prog 45 #[.int .i64 n, .int .i64 D] w (fun e w' => e = .returned (.int .i64 0) ∧ w' = w) := by
  obtain ⟨h11, h12⟩ := h1
  obtain ⟨h21, h22⟩ := h2
  go_enter Tryz.func45, Tryz.ntmps45
  go_wp2
  go_ret
  exact ⟨rfl, rfl⟩
theorem ocheck_no {n D : Int} {w : World} (h : ¬ OccIn n D) : Calls Tryz.prog 45 #[.int .i64 n, .int .i64 D] w (fun e w' => e = .returned (.int .i64 2) ∧ w' = w) := by
  have h' : n < 0 ∨ (0 ≤ n ∧ 30 < n) ∨ ((0 ≤ n ∧ n ≤ 30) ∧ D < 1) ∨ ((0 ≤ n ∧ n ≤ 30) ∧ 1 ≤ D ∧ 60 < D) := by unfold OccIn at h; omega
  rcases h' with k | ⟨k1, k2⟩ | ⟨⟨k1, k2⟩, k3⟩ | ⟨⟨k1, k2⟩, k3, k4⟩
  all_goals
    go_enter Tryz.func45, Tryz.ntmps45
    go_wp2
    go_ret
    exact ⟨rfl, rfl⟩

theorem pch_frac {n D d : Nat} : frac false (chs D d * (stir n d * fact d)) (D ^ n) = pch n D d := by rw [occ_sets, frac_false]; rfl
theorem chs_small {D d : Nat} (hD : D ≤ 60) : (limbsOf (chs D d)).length ≤ 61 := Nat.le_trans (chs_len D d) (by omega)
theorem onto_small {n d : Nat} (hn : n ≤ 30) (hd : d ≤ 30) : (limbsOf (stir n d * fact d)).length ≤ 62 := by
  have h1 := stir_len (n := n) (k := d) (by omega)
  have h2 := fact_len d (by omega)
  have h3 := limbsOf_length_mul (stir n d) (fact d)
  omega
theorem all_small {n D : Nat} (hn : n ≤ 30) (hD : D ≤ 60) : (limbsOf (D ^ n)).length ≤ 31 := Nat.le_trans (len_of_le_pow (Nat.le_refl _) (by omega)) (by omega)

/-- The chance of any number of dies. -/
def pchI (n D : Nat) (d : Int) : Rat := if d < 0 then 0 else pch n D d.toNat
end Go.Proofs.YtnedgbebajhcpaaGreatDoor
