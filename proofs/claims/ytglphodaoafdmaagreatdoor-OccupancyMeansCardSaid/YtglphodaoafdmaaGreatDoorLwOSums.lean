/- The walk of OccupancySums. -/
import Derived.Test.YtglphodaoafdmaaGreatDoorOcW
import Derived.Test.YtglphodaoafdmaaGreatDoorOcD
import Derived.Test.YtglphodaoafdmaaGreatDoorFrlS
set_option linter.unusedVariables false
set_option linter.unusedSimpArgs false
set_option maxRecDepth 100000
namespace Go.Proofs.YtglphodaoafdmaaGreatDoor
open Go.RowKit Num

theorem powQ_less {D n : Nat} (hD : 1 ≤ D) : powQ (one1 - ((1 : Int) : Rat) / ((D : Int) : Rat)) n = (((D - 1) ^ n : Nat) : Rat) / ((D ^ n : Nat) : Rat) := by
  rw [less_one hD, powQ_frac (by omega), frac_false]
theorem pchI_nat (n D d : Nat) : pchI n D (d : Int) = pch n D d := by
  unfold pchI
  rw [if_neg (by omega), Int.toNat_natCast]
theorem pchI_small {n D : Nat} (hn : n ≤ 30) (hD : D ≤ 60) (d : Int) : FB (pchI n D d) 130 := by
  unfold pchI
  split
  · have h := sumQ_fb (f := fun _ => 0) (L := 3) (n := 0) (by intro k hk; omega)
    exact h.mono (by omega)
  · rw [← pch_frac]
    by_cases hd : d.toNat ≤ 30
    · refine frac_fb ?_ ?_ (by decide)
      · have h3 := limbsOf_length_mul (chs D d.toNat) (stir n d.toNat * fact d.toNat)
        have := onto_small (n := n) (d := d.toNat) hn hd
        have := chs_small (d := d.toNat) hD
        omega
      · have := all_small hn hD
        omega
    · rw [occ_sets, occ_gt (Or.inl (by omega))]
      refine frac_fb (by rw [limbsOf_zero]; simp) ?_ (by decide)
      have := all_small hn hD
      omega
theorem sums_one {n D : Nat} (hD : 0 < D) : cmpQ (sumQ (fun d => pchI n D d) (n + 1)) (((1 : Int) : Rat) / ((1 : Int) : Rat)) = 0 := by
  rw [cmpQ_zero, sumQ_congr (g := pch n D) fun k _ => pchI_nat n D k, pch_sum hD (Nat.le_refl _)]
  decide +kernel
theorem sums_mean {n D : Nat} (hD : 0 < D) : cmpQ (sumQ (fun d => ((d : Int) : Rat) / ((1 : Int) : Rat) * pchI n D d) (n + 1)) (meanQ n D) = 0 := by
  rw [cmpQ_zero, sumQ_congr (g := fun k => ((k * occ n D k : Nat) : Rat) / ((D ^ n : Nat) : Rat)) fun k _ => by
    rw [pchI_nat, Rat.natCast_mul, Rat.intCast_natCast]
    unfold pch
    simp only [Rat.intCast_one, Rat.div_def]
    grind]
  rw [sumQ_div]
  unfold meanQ
  rw [powQ_less hD]
  have hm := congrArg (fun k : Nat => (k : Rat)) (occ_mean n D)
  simp only [Rat.natCast_add, Rat.natCast_mul] at hm
  have hp := pow_ne (n := n) hD
  rw [Rat.intCast_natCast]
  simp only [one1, Rat.intCast_one, Rat.div_def]
  generalize ((D ^ n : Nat) : Rat) = X at *
  generalize (((D - 1) ^ n : Nat) : Rat) = Y at *
  have h1 : X * X⁻¹ = 1 := Rat.mul_inv_cancel _ hp
  generalize X⁻¹ = X' at *
  generalize (D : Rat) = E at *
  generalize ((sumTo (fun d => d * occ n D d) (n + 1) : Nat) : Rat) = S at *
  grind
theorem sums_sign {n D d : Nat} (hD : 0 < D) : 0 ≤ sgnQ (pchI n D d) ∧ (D < d → sgnQ (pchI n D d) = 0) := by
  rw [pchI_nat, ← pch_frac, occ_sets]
  have hp := Nat.pow_pos (n := n) hD
  by_cases h : occ n D d = 0
  · rw [sgnQ_zero (.inl h)]
    omega
  · rw [sgnQ_frac h (by omega)]
    refine ⟨by simp, fun hd => absurd (occ_gt (Or.inr hd)) h⟩

end Go.Proofs.YtglphodaoafdmaaGreatDoor
