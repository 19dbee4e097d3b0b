/- In how many ways specimens show so many dies, on Nat. No program is named here. Occupancy on rationals: chances, sums, means. No program is named here. -/
import Derived.Test.YtnedgbebajhcpaaDoorCntP
set_option linter.unusedVariables false
set_option linter.unusedSimpArgs false
namespace Go.Proofs.YtnedgbebajhcpaaDoor
open Num

/-- n specimens, D dies: the ways in which d dies are seen. -/
def occ (n D d : Nat) : Nat := stir n d * fall D d
theorem occ_sets (n D d : Nat) : chs D d * (stir n d * fact d) = occ n D d := by unfold occ; rw [fall_chs, Nat.mul_left_comm]
theorem occ_gt {n D d : Nat} (h : n < d ∨ D < d) : occ n D d = 0 := by
  unfold occ
  rcases h with h | h
  · rw [stir_gt _ _ h, Nat.zero_mul]
  · rw [fall_gt _ _ h, Nat.mul_zero]
theorem occ_sum (n D : Nat) : sumTo (occ n D) (n + 1) = D ^ n := stir_powers D n
theorem occ_start (D : Nat) : occ 0 D 0 = 1 := rfl
theorem occ_step_zero (n D : Nat) : occ (n + 1) D 0 = 0 := by unfold occ; rw [stir_succ_zero, Nat.zero_mul]
theorem occ_step (n D d : Nat) : occ (n + 1) D (d + 1) = occ n D (d + 1) * (d + 1) + occ n D d * (D - d) := by
  unfold occ
  rw [stir_succ, Nat.add_mul, Nat.add_comm]
  congr 1
  · rw [Nat.mul_comm (d + 1), Nat.mul_right_comm]
  · rw [fall_succ, Nat.mul_assoc]
theorem sumTo_tail {f : Nat → Nat} {n m : Nat} (h : n ≤ m) (hf : ∀ k, n ≤ k → f k = 0) : sumTo f m = sumTo f n := by
  induction m with
  | zero => rw [show n = 0 from by omega]
  | succ m ih =>
    rcases Nat.lt_or_ge m n with h' | h'
    · rw [show n = m + 1 from by omega]
    · rw [sumTo_succ, ih h', hf m h', Nat.add_zero]
theorem occ_sum_ge {n D m : Nat} (h : n + 1 ≤ m) : sumTo (occ n D) m = D ^ n := by
  rw [sumTo_tail h (fun k hk => occ_gt (.inl (by omega))), occ_sum]
theorem fall_pred (D d : Nat) : fall D d * (D - d) = D * fall (D - 1) d := by
  induction d with
  | zero => simp [fall]
  | succ d ih =>
    rw [fall_succ, fall_succ, ← Nat.mul_assoc, ← ih, show D - 1 - d = D - (d + 1) from by omega]
theorem occ_left (n D : Nat) : sumTo (fun d => occ n D d * (D - d)) (n + 1) = D * (D - 1) ^ n := by
  rw [← stir_powers (D - 1) n, ← sumTo_mul]
  refine sumTo_congr fun k _ => ?_
  unfold occ
  rw [Nat.mul_assoc, fall_pred, Nat.mul_left_comm]
theorem occ_mean (n D : Nat) : sumTo (fun d => d * occ n D d) (n + 1) + D * (D - 1) ^ n = D * D ^ n := by
  rw [← occ_left, ← sumTo_add, ← occ_sum, ← sumTo_mul]
  refine sumTo_congr fun k _ => ?_
  rcases Nat.lt_or_ge D k with h | h
  · rw [occ_gt (.inr h)]; simp
  · rw [Nat.mul_comm k, ← Nat.mul_add]; rw [show k + (D - k) = D from by omega, Nat.mul_comm]

/-- One more specimen. -/
theorem occ_most_step (n D : Nat) : ∀ k, sumTo (occ (n + 1) D) (k + 1) + occ n D k * (D - k) = D * sumTo (occ n D) (k + 1) := by
  intro k
  induction k with
  | zero =>
    simp only [sumTo, Nat.zero_add]
    rw [occ_step_zero, Nat.zero_add, Nat.sub_zero, Nat.mul_comm]
  | succ k ih =>
    rw [sumTo_succ, sumTo_succ (occ n D), Nat.mul_add, ← ih, occ_step]
    rcases Nat.lt_or_ge D (k + 1) with h | h
    · rw [occ_gt (n := n) (.inr h)]; simp
    · have e : D * occ n D (k + 1) = occ n D (k + 1) * (k + 1) + occ n D (k + 1) * (D - (k + 1)) := by
        rw [← Nat.mul_add, show k + 1 + (D - (k + 1)) = D from by omega, Nat.mul_comm]
      rw [e]; omega
theorem occ_most_le (n D k : Nat) : sumTo (occ (n + 1) D) k ≤ D * sumTo (occ n D) k := by
  cases k with
  | zero => exact Nat.zero_le _
  | succ k => have := occ_most_step n D k; omega
theorem occ_most_next (n D k : Nat) (h : k ≤ D) : sumTo (occ (n + 1) D) (k + 1) = D * sumTo (occ n D) k + k * occ n D k := by
  have h1 := occ_most_step n D k
  rw [sumTo_succ (occ n D), Nat.mul_add] at h1
  have e : D * occ n D k = k * occ n D k + occ n D k * (D - k) := by
    rw [Nat.mul_comm k, ← Nat.mul_add, show k + (D - k) = D from by omega, Nat.mul_comm]
  omega

/-- One more die: what is seen at most does not become more likely. -/
theorem occ_more_dies (n D : Nat) (hD : 0 < D) : ∀ k, sumTo (occ n (D + 1)) k * D ^ n ≤ sumTo (occ n D) k * (D + 1) ^ n := by
  induction n with
  | zero =>
    intro k
    rw [Nat.pow_zero, Nat.pow_zero, Nat.mul_one, Nat.mul_one]
    refine Nat.le_of_eq (sumTo_congr fun d _ => ?_)
    cases d with
    | zero => rfl
    | succ d => rw [occ_gt (.inl (by omega)), occ_gt (.inl (by omega))]
  | succ n ih =>
    intro k
    cases k with
    | zero => simp [sumTo]
    | succ k =>
      rcases Nat.lt_or_ge D k with h | h
      · -- all dies are seen at most
        have h1 : sumTo (occ (n + 1) D) (k + 1) = D ^ (n + 1) := by
          have h2 := occ_sum_ge (n := n + 1) (D := D) (m := max (k + 1) (n + 2)) (by omega)
          rw [← h2]
          symm
          exact sumTo_tail (by omega) (fun j hj => occ_gt (.inr (by omega)))
        have h3 : sumTo (occ (n + 1) (D + 1)) (k + 1) ≤ (D + 1) ^ (n + 1) := by
          rw [← occ_sum_ge (n := n + 1) (D := D + 1) (m := max (k + 1) (n + 2)) (by omega)]
          generalize occ (n + 1) (D + 1) = f
          have : ∀ i m, i ≤ m → sumTo f i ≤ sumTo f m := by
            intro i m hm
            induction m with
            | zero => rw [show i = 0 from by omega]; exact Nat.le_refl _
            | succ m ih2 =>
              rcases Nat.lt_or_ge m i with h' | h'
              · rw [show i = m + 1 from by omega]; exact Nat.le_refl _
              · rw [sumTo_succ]; have := ih2 h'; omega
          exact this _ _ (by omega)
        rw [h1, Nat.mul_comm (D ^ (n + 1))]
        exact Nat.mul_le_mul_right _ h3
      · have e1 := occ_most_next n D k h
        have e2 := occ_most_next n (D + 1) k (by omega)
        have i1 := ih k
        have i2 := ih (k + 1)
        rw [sumTo_succ, sumTo_succ] at i2
        rw [e1, e2, Nat.pow_succ, Nat.pow_succ]
        generalize sumTo (occ n D) k = A at *
        generalize sumTo (occ n (D + 1)) k = A' at *
        generalize occ n D k = b at *
        generalize occ n (D + 1) k = b' at *
        generalize D ^ n = p at *
        generalize (D + 1) ^ n = p' at *
        -- A' p ≤ A p', (A' + b') p ≤ (A + b) p'; k ≤ D
        have g1 : ((D + 1) * A' + k * b') * (p * D) = (D + 1 - k) * D * (A' * p) + k * D * ((A' + b') * p) := by
          obtain ⟨m, rfl⟩ : ∃ m, D = k + m := ⟨D - k, by omega⟩
          rw [show k + m + 1 - k = m + 1 from by omega]
          grind
        have g2 : (D * A + k * b) * (p' * (D + 1)) = (D + 1 - k) * D * (A * p') + k * D * ((A + b) * p') + k * (b * p') := by
          obtain ⟨m, rfl⟩ : ∃ m, D = k + m := ⟨D - k, by omega⟩
          rw [show k + m + 1 - k = m + 1 from by omega]
          grind
        rw [g1, g2]
        have l1 := Nat.mul_le_mul_left ((D + 1 - k) * D) i1
        have l2 := Nat.mul_le_mul_left (k * D) i2
        omega

end Go.Proofs.YtnedgbebajhcpaaDoor
namespace Go.Proofs.YtnedgbebajhcpaaDoor
open Num

/-- The sum of the first n values. -/
def sumQ (f : Nat → Rat) : Nat → Rat
  | 0 => 0
  | n + 1 => sumQ f n + f n
theorem sumQ_succ (f : Nat → Rat) (n : Nat) : sumQ f (n + 1) = sumQ f n + f n := rfl
theorem sumQ_div (f : Nat → Nat) (c : Rat) : ∀ n, sumQ (fun k => (f k : Rat) / c) n = (sumTo f n : Rat) / c
  | 0 => by simp [sumQ, sumTo, Rat.div_def]
  | n + 1 => by
    rw [sumQ_succ, sumQ_div f c n, sumTo_succ, Rat.natCast_add]
    simp only [Rat.div_def, Rat.add_mul]
theorem sumQ_congr {f g : Nat → Rat} : ∀ {n : Nat}, (∀ k, k < n → f k = g k) → sumQ f n = sumQ g n
  | 0, _ => rfl
  | n + 1, h => by rw [sumQ_succ, sumQ_succ, sumQ_congr fun k hk => h k (by omega), h n (by omega)]

/-- The chance of d dies. -/
def pch (n D d : Nat) : Rat := (occ n D d : Rat) / ((D ^ n : Nat) : Rat)
theorem pow_ne {D n : Nat} (h : 0 < D) : ((D ^ n : Nat) : Rat) ≠ 0 := by
  have := Nat.pow_pos (n := n) h
  exact_mod_cast (show D ^ n ≠ 0 from by omega)
theorem pch_gt {n D d : Nat} (h : n < d ∨ D < d) : pch n D d = 0 := by
  unfold pch
  rw [occ_gt h, Rat.div_def]
  exact Rat.zero_mul _
theorem pch_sum {n D m : Nat} (hD : 0 < D) (hm : n + 1 ≤ m) : sumQ (pch n D) m = 1 := by
  have h := sumQ_div (occ n D) ((D ^ n : Nat) : Rat) m
  have e : sumQ (pch n D) m = sumQ (fun k => (occ n D k : Rat) / ((D ^ n : Nat) : Rat)) m := rfl
  rw [e, h, occ_sum_ge hm, Rat.div_def]
  exact Rat.mul_inv_cancel _ (pow_ne hD)
theorem pch_step {n D d : Nat} (hD : 0 < D) : pch (n + 1) D (d + 1) = ((d + 1 : Nat) : Rat) / (D : Rat) * pch n D (d + 1) + ((D - d : Nat) : Rat) / (D : Rat) * pch n D d := by
  have hD' : (D : Rat) ≠ 0 := by exact_mod_cast (show D ≠ 0 from by omega)
  have hp := pow_ne (n := n) hD
  unfold pch
  rw [occ_step, Nat.pow_succ, Rat.natCast_add, Rat.natCast_mul, Rat.natCast_mul, Rat.natCast_mul]
  generalize ((D ^ n : Nat) : Rat) = P at *
  simp only [Rat.div_def]
  grind

end Go.Proofs.YtnedgbebajhcpaaDoor
