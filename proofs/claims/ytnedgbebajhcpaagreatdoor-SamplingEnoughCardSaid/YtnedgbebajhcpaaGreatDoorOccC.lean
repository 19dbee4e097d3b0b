/- The walk of OccupancySplits. The walk of OccupancySums. Which numbers of dies a sample accepts: plain law, on rationals. No function is named here. The accepted numbers as a list, and the likeliest number. Plain law. No function is named here. -/
import Derived.Test.YtnedgbebajhcpaaGreatDoorOcW
import Derived.Test.YtnedgbebajhcpaaGreatDoorOcV
import Derived.Test.YtnedgbebajhcpaaGreatDoorOcRD
import Derived.Test.YtnedgbebajhcpaaGreatDoorFrlS
set_option linter.unusedVariables false
set_option linter.unusedSimpArgs false
set_option maxRecDepth 100000
namespace Go.Proofs.YtnedgbebajhcpaaGreatDoor
open Go.RowKit Num

theorem most_sum (n D j : Nat) : sumTo (occ n D) (min j (n + 1)) = sumTo (occ n D) j := by
  rcases Nat.le_total j (n + 1) with h | h
  · rw [Nat.min_eq_left h]
  · rw [Nat.min_eq_right h]
    exact (sumTo_tail h fun k hk => occ_gt (.inl (by omega))).symm
theorem most_le {n D j : Nat} : sumTo (occ n D) j ≤ D ^ n := by
  rw [← most_sum, ← occ_sum n D]
  exact sumTo_mono (Nat.min_le_right _ _)
theorem mostQ_sum {n D j : Nat} {d : Int} (hd : d + 1 = (j : Int)) : mostQ n D d = frac false (sumTo (occ n D) j) (D ^ n) := by
  unfold mostQ mostN
  rw [show (d + 1).toNat = j from by omega, most_sum]
theorem leastQ_sum {n D j : Nat} : leastQ n D (j : Int) = frac false (D ^ n - sumTo (occ n D) j) (D ^ n) := by
  unfold leastQ
  rw [Int.toNat_natCast, most_sum]
theorem most_fb {n D m : Nat} (hn : n ≤ 31) (hD : D ≤ 60) (hm : m ≤ D ^ n) : FB (frac false m (D ^ n)) 40 := by
  have h1 := limbsOf_length_mono hm
  have h2 : (limbsOf (D ^ n)).length ≤ n + 1 := len_of_le_pow (Nat.le_refl _) (by omega)
  exact frac_fb (by omega) (by omega) (by decide)
theorem mostQ_fb {n D : Nat} {d : Int} (hn : n ≤ 31) (hD : D ≤ 60) : FB (mostQ n D d) 40 := most_fb hn hD (by unfold mostN; exact Nat.le_trans (sumTo_mono (Nat.min_le_right _ _)) (Nat.le_of_eq (occ_sum n D)))
theorem leastQ_fb {n D : Nat} {d : Int} (hn : n ≤ 31) (hD : D ≤ 60) : FB (leastQ n D d) 40 := most_fb hn hD (Nat.sub_le _ _)
theorem splits_one {n D j : Nat} {d : Int} (hD : 0 < D) (hd : d + 1 = (j : Int)) : cmpQ (mostQ n D d + leastQ n D (j : Int)) (((1 : Int) : Rat) / ((1 : Int) : Rat)) = 0 := by
  rw [cmpQ_zero, mostQ_sum hd, leastQ_sum, frac_add (by have := Nat.pow_pos (n := n) hD; omega) (by have := Nat.pow_pos (n := n) hD; omega), ← Nat.add_mul, Nat.add_sub_cancel' most_le, frac_false, Rat.div_def]
  have hp := pow_ne (n := n) hD
  rw [Rat.natCast_mul]
  have e : ((1 : Int) : Rat) / ((1 : Int) : Rat) = 1 := by decide +kernel
  rw [e]
  generalize ((D ^ n : Nat) : Rat) = X at *
  grind
theorem cmp_le_frac {n m d e : Nat} (hd : d ≠ 0) (he : e ≠ 0) (h : n * e ≤ m * d) : cmpQ (frac false n d) (frac false m e) ≤ 0 := by
  have h1 : ¬ 0 < cmpQ (frac false n d) (frac false m e) := by
    rw [cmpQ_pos, frac_false, frac_false, frac_lt he hd]
    omega
  omega
theorem splits_more {n D j : Nat} {d : Int} (hD : 0 < D) (hd : d + 1 = (j : Int)) : cmpQ (mostQ (n + 1) D d) (mostQ n D d) ≤ 0 := by
  rw [mostQ_sum hd, mostQ_sum hd]
  refine cmp_le_frac (by have := Nat.pow_pos (n := n + 1) hD; omega) (by have := Nat.pow_pos (n := n) hD; omega) ?_
  have h := Nat.mul_le_mul_right (D ^ n) (occ_most_le n D j)
  rw [Nat.pow_succ, Nat.mul_comm (D ^ n) D, ← Nat.mul_assoc, Nat.mul_comm _ D]
  exact h
theorem splits_die {n D j : Nat} {d : Int} (hD : 0 < D) (hd : d + 1 = (j : Int)) : cmpQ (mostQ n (D + 1) d) (mostQ n D d) ≤ 0 := by
  rw [mostQ_sum hd, mostQ_sum hd]
  exact cmp_le_frac (by have := Nat.pow_pos (n := n) (show 0 < D + 1 by omega); omega) (by have := Nat.pow_pos (n := n) hD; omega) (occ_more_dies n D hD j)
theorem sgn_frac_nonneg (n d : Nat) : 0 ≤ sgnQ (frac false n d) := by
  by_cases h : n = 0 ∨ d = 0
  · rw [sgnQ_zero h]; exact Int.le_refl _
  · rw [sgnQ_frac (by omega) (by omega)]; decide

end Go.Proofs.YtnedgbebajhcpaaGreatDoor
namespace Go.Proofs.YtnedgbebajhcpaaGreatDoor
open Go.RowKit Num

theorem powQ_less {D n : Nat} (hD : 1 ≤ D) : powQ (one1 - ((1 : Int) : Rat) / ((D : Int) : Rat)) n = (((D - 1) ^ n : Nat) : Rat) / ((D ^ n : Nat) : Rat) := by
  rw [less_one hD, powQ_frac (by omega), frac_false]
theorem pchI_nat (n D d : Nat) : pchI n D (d : Int) = pch n D d := by
  unfold pchI
  rw [if_neg (by omega), Int.toNat_natCast]
theorem pchI_small {n D : Nat} (hn : n ≤ 30) (hD : D ≤ 60) (d : Int) : FB (pchI n D d) 130 := by
  unfold pchI
  split
  · have h := sumQ_fb (f := fun _ => 0) (L := 3) (n := 0) (by intro k hk; omega)
    exact h.mono (by omega)
  · rw [← pch_frac]
    by_cases hd : d.toNat ≤ 30
    · refine frac_fb ?_ ?_ (by decide)
      · have h3 := limbsOf_length_mul (chs D d.toNat) (stir n d.toNat * fact d.toNat)
        have := onto_small (n := n) (d := d.toNat) hn hd
        have := chs_small (d := d.toNat) hD
        omega
      · have := all_small hn hD
        omega
    · rw [occ_sets, occ_gt (Or.inl (by omega))]
      refine frac_fb (by rw [limbsOf_zero]; simp) ?_ (by decide)
      have := all_small hn hD
      omega
theorem sums_one {n D : Nat} (hD : 0 < D) : cmpQ (sumQ (fun d => pchI n D d) (n + 1)) (((1 : Int) : Rat) / ((1 : Int) : Rat)) = 0 := by
  rw [cmpQ_zero, sumQ_congr (g := pch n D) fun k _ => pchI_nat n D k, pch_sum hD (Nat.le_refl _)]
  decide +kernel
theorem sums_mean {n D : Nat} (hD : 0 < D) : cmpQ (sumQ (fun d => ((d : Int) : Rat) / ((1 : Int) : Rat) * pchI n D d) (n + 1)) (meanQ n D) = 0 := by
  rw [cmpQ_zero, sumQ_congr (g := fun k => ((k * occ n D k : Nat) : Rat) / ((D ^ n : Nat) : Rat)) fun k _ => by
    rw [pchI_nat, Rat.natCast_mul, Rat.intCast_natCast]
    unfold pch
    simp only [Rat.intCast_one, Rat.div_def]
    grind]
  rw [sumQ_div]
  unfold meanQ
  rw [powQ_less hD]
  have hm := congrArg (fun k : Nat => (k : Rat)) (occ_mean n D)
  simp only [Rat.natCast_add, Rat.natCast_mul] at hm
  have hp := pow_ne (n := n) hD
  rw [Rat.intCast_natCast]
  simp only [one1, Rat.intCast_one, Rat.div_def]
  generalize ((D ^ n : Nat) : Rat) = X at *
  generalize (((D - 1) ^ n : Nat) : Rat) = Y at *
  have h1 : X * X⁻¹ = 1 := Rat.mul_inv_cancel _ hp
  generalize X⁻¹ = X' at *
  generalize (D : Rat) = E at *
  generalize ((sumTo (fun d => d * occ n D d) (n + 1) : Nat) : Rat) = S at *
  grind
theorem sums_sign {n D d : Nat} (hD : 0 < D) : 0 ≤ sgnQ (pchI n D d) ∧ (D < d → sgnQ (pchI n D d) = 0) := by
  rw [pchI_nat, ← pch_frac, occ_sets]
  have hp := Nat.pow_pos (n := n) hD
  by_cases h : occ n D d = 0
  · rw [sgnQ_zero (.inl h)]
    omega
  · rw [sgnQ_frac h (by omega)]
    refine ⟨by simp, fun hd => absurd (occ_gt (Or.inr hd)) h⟩

end Go.Proofs.YtnedgbebajhcpaaGreatDoor
namespace Go.Proofs.YtnedgbebajhcpaaGreatDoor
open Num

theorem le_of_cmp {a b : Rat} (h : cmpQ a b ≤ 0) : a ≤ b := by
  have h1 : ¬ b < a := by rw [← cmpQ_pos]; omega
  grind
theorem most_die {n D j : Nat} {d : Int} (hD : 0 < D) (hd : d + 1 = (j : Int)) : ∀ {E : Nat}, D ≤ E → mostQ n E d ≤ mostQ n D d := by
  intro E hE
  induction E with
  | zero => omega
  | succ E ih =>
    rcases Nat.lt_or_ge E D with h | h
    · rw [show E + 1 = D from by omega]; exact Rat.le_refl
    · have h1 := ih h
      have h2 := le_of_cmp (splits_die (n := n) (D := E) (j := j) (d := d) (by omega) hd)
      grind
theorem most_least {n D j : Nat} {d : Int} (hD : 0 < D) (hd : d + 1 = (j : Int)) : mostQ n D d + leastQ n D (j : Int) = 1 := by
  have h := (cmpQ_zero _ _).1 (splits_one (n := n) (D := D) (j := j) (d := d) hD hd)
  rw [h]
  decide +kernel
theorem least_die {n D j : Nat} (hD : 0 < D) (hj : 1 ≤ j) {E : Nat} (hE : D ≤ E) : leastQ n D (j : Int) ≤ leastQ n E (j : Int) := by
  have h1 := most_least (n := n) (D := D) (j := j) (d := (j : Int) - 1) hD (by omega)
  have h2 := most_least (n := n) (D := E) (j := j) (d := (j : Int) - 1) (by omega) (by omega)
  have h3 := most_die (n := n) (D := D) (j := j) (d := (j : Int) - 1) hD (by omega) hE
  grind
/-- D is accepted. -/
def Acc (n d D : Nat) (h : Rat) : Prop := h < mostQ n D (d : Int) ∧ h < leastQ n D (d : Int)
instance (n d D : Nat) (h : Rat) : Decidable (Acc n d D h) := by unfold Acc; infer_instance
/-- What lies between two that are accepted is accepted. -/
theorem Acc.between {n d D E F : Nat} {h : Rat} (hd : 1 ≤ d) (hD : 0 < D) (h1 : Acc n d D h) (h2 : Acc n d E h) (hDF : D ≤ F) (hFE : F ≤ E) : Acc n d F h := by
  have a := most_die (n := n) (D := F) (j := d + 1) (d := (d : Int)) (by omega) (by omega) hFE
  have b := least_die (n := n) (D := D) (j := d) hD hd hDF
  exact ⟨by have := h2.1; grind, by have := h1.2; grind⟩
theorem Acc.mono {n d D : Nat} {h g : Rat} (h1 : Acc n d D h) (hg : g ≤ h) : Acc n d D g := ⟨by have := h1.1; grind, by have := h1.2; grind⟩
theorem least_zero {n d D : Nat} (hD : 0 < D) (h : D < d) : leastQ n D (d : Int) = 0 := by
  rw [leastQ_sum]
  have e : sumTo (occ n D) d = D ^ n := by
    rw [← occ_sum_ge (n := n) (D := D) (m := max d (n + 1)) (by omega)]
    exact (sumTo_tail (by omega) (fun k hk => occ_gt (.inr (by omega)))).symm
  rw [e, Nat.sub_self]
  exact frac_zero (.inl rfl)
theorem Acc.ge {n d D : Nat} {h : Rat} (hD : 0 < D) (h0 : 0 ≤ h) (h1 : Acc n d D h) : d ≤ D := by
  rcases Nat.lt_or_ge D d with hlt | hge
  · have := h1.2
    rw [least_zero hD hlt] at this
    grind
  · exact hge

theorem pch_nonneg {n D d : Nat} : 0 ≤ pch n D d := by
  unfold pch
  rw [Rat.div_def]
  refine Rat.mul_nonneg (by exact_mod_cast Nat.zero_le _) ?_
  by_cases h : ((D ^ n : Nat) : Rat) = 0
  · rw [h]; decide +kernel
  · have h2 : (0 : Rat) ≤ ((D ^ n : Nat) : Rat) := by exact_mod_cast Nat.zero_le _
    exact Rat.le_of_lt (Rat.inv_pos.2 (by grind))
theorem most_sumQ {n D j : Nat} {d : Int} (hd : d + 1 = (j : Int)) : mostQ n D d = sumQ (pch n D) j := by
  rw [mostQ_sum hd, frac_false]
  exact (sumQ_div (occ n D) ((D ^ n : Nat) : Rat) j).symm
theorem least_sumQ {n D j : Nat} (hD : 0 < D) : leastQ n D (j : Int) = 1 - sumQ (pch n D) j := by
  have h := most_least (n := n) (D := D) (j := j) (d := (j : Int) - 1) hD (by omega)
  rw [most_sumQ (j := j) (by omega)] at h
  grind
theorem sumQ_le {f g : Nat → Rat} : ∀ {n : Nat}, (∀ k, k < n → f k ≤ g k) → sumQ f n ≤ sumQ g n
  | 0, _ => Rat.le_refl
  | n + 1, h => by
    rw [sumQ_succ, sumQ_succ]
    have h1 := sumQ_le (n := n) fun k hk => h k (by omega)
    have h2 := h n (by omega)
    grind
/-- What is seen too seldom at most has a small chance. -/
theorem low_small {n D : Nat} {h : Rat} (h0 : 0 ≤ h) : ∀ k, sumQ (fun d => if mostQ n D (d : Int) ≤ h then pch n D d else 0) k ≤ h
  | 0 => h0
  | k + 1 => by
    rw [sumQ_succ]
    by_cases hk : mostQ n D (k : Int) ≤ h
    · have h1 : sumQ (fun d => if mostQ n D (d : Int) ≤ h then pch n D d else 0) k ≤ sumQ (pch n D) k := sumQ_le fun j _ => by
        split
        · exact Rat.le_refl
        · exact pch_nonneg
      have h2 : mostQ n D (k : Int) = sumQ (pch n D) (k + 1) := most_sumQ (by omega)
      rw [sumQ_succ] at h2
      rw [if_pos hk]
      grind
    · rw [if_neg hk]
      have := low_small h0 k (n := n) (D := D)
      grind
theorem high_small {n D : Nat} {h : Rat} (h0 : 0 ≤ h) (hD : 0 < D) : ∀ i k, k + i = n + 1 → sumQ (fun d => if leastQ n D (d : Int) ≤ h then pch n D d else 0) (n + 1) - sumQ (fun d => if leastQ n D (d : Int) ≤ h then pch n D d else 0) k ≤ h := by
  intro i
  induction i with
  | zero =>
    intro k hk
    rw [show k = n + 1 from by omega]
    grind
  | succ i ih =>
    intro k hk
    by_cases hl : leastQ n D (k : Int) ≤ h
    · have hs : ∀ m, sumQ (fun d => if leastQ n D (d : Int) ≤ h then pch n D d else 0) (k + m) - sumQ (fun d => if leastQ n D (d : Int) ≤ h then pch n D d else 0) k ≤ sumQ (pch n D) (k + m) - sumQ (pch n D) k := by
        intro m
        induction m with
        | zero => rw [Nat.add_zero]; grind
        | succ m ihm =>
          rw [← Nat.add_assoc, sumQ_succ, sumQ_succ]
          have hp := pch_nonneg (n := n) (D := D) (d := k + m)
          split <;> grind
      have h1 := hs (n + 1 - k)
      rw [show k + (n + 1 - k) = n + 1 from by omega] at h1
      rw [pch_sum hD (Nat.le_refl _)] at h1
      rw [least_sumQ hD] at hl
      grind
    · have h1 := ih (k + 1) (by omega)
      rw [sumQ_succ _ k, if_neg hl] at h1
      grind
/-- Whatever the number of dies is: what accepts it is seen with a chance of at least 1 - q. -/
theorem covers {n D : Nat} {q : Rat} (hn : 1 ≤ n) (hD : 0 < D) (hq : 0 ≤ q) : 1 ≤ sumQ (fun d => if Acc n d D (q / 2) then pch n D d else 0) (n + 1) + q := by
  have hh : 0 ≤ q / 2 := by rw [Rat.div_def]; exact Rat.mul_nonneg hq (by decide +kernel)
  have h1 := low_small (n := n) (D := D) hh (n + 1)
  have h2 := high_small (n := n) (D := D) hh hD (n + 1) 0 (by omega)
  have h3 : sumQ (pch n D) (n + 1) = 1 := pch_sum hD (Nat.le_refl _)
  have h4 : ∀ k, sumQ (pch n D) k ≤ sumQ (fun d => if Acc n d D (q / 2) then pch n D d else 0) k + sumQ (fun d => if mostQ n D (d : Int) ≤ q / 2 then pch n D d else 0) k + sumQ (fun d => if leastQ n D (d : Int) ≤ q / 2 then pch n D d else 0) k := by
    intro k
    induction k with
    | zero => show (0 : Rat) ≤ 0 + 0 + 0; grind
    | succ k ih =>
      rw [sumQ_succ, sumQ_succ, sumQ_succ, sumQ_succ]
      have hp := pch_nonneg (n := n) (D := D) (d := k)
      by_cases ha : Acc n k D (q / 2)
      · rw [if_pos ha]
        split <;> split <;> grind
      · rw [if_neg ha]
        unfold Acc at ha
        by_cases hm : mostQ n D (k : Int) ≤ q / 2
        · rw [if_pos hm]
          split <;> grind
        · have hl : leastQ n D (k : Int) ≤ q / 2 := by
            rcases Classical.em (leastQ n D (k : Int) ≤ q / 2) with h | h
            · exact h
            · exact absurd ⟨by grind, by grind⟩ ha
          rw [if_neg hm, if_pos hl]
          grind
  have h5 := h4 (n + 1)
  have e : sumQ (fun d => if leastQ n D (d : Int) ≤ q / 2 then pch n D d else 0) 0 = 0 := rfl
  rw [e] at h2
  have hq2 : q / 2 + q / 2 = q := by rw [Rat.div_def]; grind
  grind

end Go.Proofs.YtnedgbebajhcpaaGreatDoor
namespace Go.Proofs.YtnedgbebajhcpaaGreatDoor
open Num

/-- The accepted numbers from 1 to m. -/
def accL (n d : Nat) (h : Rat) : Nat → List Nat
  | 0 => []
  | m + 1 => if Acc n d (m + 1) h then accL n d h m ++ [m + 1] else accL n d h m
theorem accL_in {n d m : Nat} {h : Rat} (ha : Acc n d (m + 1) h) : accL n d h (m + 1) = accL n d h m ++ [m + 1] := if_pos ha
theorem accL_out {n d m : Nat} {h : Rat} (ha : ¬ Acc n d (m + 1) h) : accL n d h (m + 1) = accL n d h m := if_neg ha
theorem mem_accL {n d x : Nat} {h : Rat} : ∀ {m : Nat}, x ∈ accL n d h m ↔ 1 ≤ x ∧ x ≤ m ∧ Acc n d x h
  | 0 => by
    constructor
    · intro hx; cases hx
    · rintro ⟨h1, h2, _⟩; omega
  | m + 1 => by
    by_cases ha : Acc n d (m + 1) h
    · rw [accL_in ha, List.mem_append, mem_accL, List.mem_singleton]
      constructor
      · rintro (⟨h1, h2, h3⟩ | rfl)
        · exact ⟨h1, by omega, h3⟩
        · exact ⟨by omega, by omega, ha⟩
      · rintro ⟨h1, h2, h3⟩
        by_cases hx : x = m + 1
        · exact .inr hx
        · exact .inl ⟨h1, by omega, h3⟩
    · rw [accL_out ha, mem_accL]
      constructor
      · rintro ⟨h1, h2, h3⟩; exact ⟨h1, by omega, h3⟩
      · rintro ⟨h1, h2, h3⟩
        refine ⟨h1, ?_, h3⟩
        rcases Nat.lt_or_ge m x with hx | hx
        · rw [show x = m + 1 from by omega] at h3; exact absurd h3 ha
        · exact hx
theorem accL_length {n d : Nat} {h : Rat} : ∀ m, (accL n d h m).length ≤ m
  | 0 => Nat.le_refl _
  | m + 1 => by
    have ih := accL_length (n := n) (d := d) (h := h) m
    by_cases ha : Acc n d (m + 1) h
    · rw [accL_in ha, List.length_append, List.length_singleton]; omega
    · rw [accL_out ha]; omega
/-- It has no gaps. -/
theorem accL_shape {n d : Nat} {h : Rat} (hd : 1 ≤ d) : ∀ m, accL n d h m = [] ∨ ∃ lo k, 1 ≤ lo ∧ lo + k ≤ m ∧ accL n d h m = List.range' lo (k + 1)
  | 0 => .inl rfl
  | m + 1 => by
    by_cases ha : Acc n d (m + 1) h
    · right
      rw [accL_in ha]
      rcases accL_shape hd m with h0 | ⟨lo, k, h1, h2, h3⟩
      · rw [h0]
        exact ⟨m + 1, 0, by omega, by omega, rfl⟩
      · have hlast : Acc n d lo h := (mem_accL.1 (show lo ∈ accL n d h m by rw [h3, List.mem_range'_1]; omega)).2.2
        have hm : Acc n d m h := Acc.between hd (by omega) hlast ha (by omega) (by omega)
        have hmm : m ∈ accL n d h m := mem_accL.2 ⟨by omega, Nat.le_refl _, hm⟩
        rw [h3, List.mem_range'_1] at hmm
        refine ⟨lo, k + 1, h1, by omega, ?_⟩
        rw [h3, show m + 1 = lo + 1 * (k + 1) from by omega, ← List.range'_concat]
    · rw [accL_out ha]
      rcases accL_shape hd m with h0 | ⟨lo, k, h1, h2, h3⟩
      · exact .inl h0
      · exact .inr ⟨lo, k, h1, by omega, h3⟩
/-- A smaller level leaves nothing out. -/
theorem accL_mono {n d m x : Nat} {h g : Rat} (hg : g ≤ h) (hx : x ∈ accL n d h m) : x ∈ accL n d g m := by
  obtain ⟨h1, h2, h3⟩ := mem_accL.1 hx
  exact mem_accL.2 ⟨h1, h2, h3.mono hg⟩
theorem accL_cap {n d k m x : Nat} {h : Rat} (hk : k ≤ m) (hx : x ∈ accL n d h m) : x ≤ k ↔ x ∈ accL n d h k := by
  obtain ⟨h1, h2, h3⟩ := mem_accL.1 hx
  constructor
  · exact fun hxk => mem_accL.2 ⟨h1, hxk, h3⟩
  · exact fun hxk => (mem_accL.1 hxk).2.1
theorem accL_count {n d k : Nat} {h : Rat} : ∀ m, k ≤ m → (accL n d h m).countP (fun x => decide (x ≤ k)) = (accL n d h k).length
  | 0, hk => by rw [show k = 0 from by omega]; rfl
  | m + 1, hk => by
    by_cases hkm : k = m + 1
    · subst hkm
      rw [List.countP_eq_length]
      intro x hx
      exact decide_eq_true (mem_accL.1 hx).2.1
    · have ih := accL_count (n := n) (d := d) (h := h) (k := k) m (by omega)
      by_cases ha : Acc n d (m + 1) h
      · rw [accL_in ha, List.countP_append, ih, List.countP_singleton, if_neg (by rw [decide_eq_true_eq]; omega), Nat.add_zero]
      · rw [accL_out ha, ih]

/-- The likeliest of d, d + 1, .. , d + j: the first with the greatest chance. -/
def likeF (n d : Nat) : Nat → Nat
  | 0 => d
  | j + 1 => if pch n (likeF n d j) d < pch n (d + (j + 1)) d then d + (j + 1) else likeF n d j
theorem likeF_law {n d : Nat} : ∀ j, (d ≤ likeF n d j ∧ likeF n d j ≤ d + j) ∧ (∀ D, d ≤ D → D ≤ d + j → pch n D d ≤ pch n (likeF n d j) d) ∧ (∀ D, d ≤ D → D < likeF n d j → pch n D d < pch n (likeF n d j) d)
  | 0 => ⟨⟨Nat.le_refl _, Nat.le_refl _⟩, fun D h1 h2 => by rw [show D = d from by omega]; exact Rat.le_refl, fun D h1 h2 => by have : D < d := h2; omega⟩
  | j + 1 => by
    obtain ⟨h1, h2, h3⟩ := likeF_law (n := n) (d := d) j
    by_cases hc : pch n (likeF n d j) d < pch n (d + (j + 1)) d
    · have e : likeF n d (j + 1) = d + (j + 1) := if_pos hc
      rw [e]
      refine ⟨⟨by omega, by omega⟩, fun D g1 g2 => ?_, fun D g1 g2 => ?_⟩
      · by_cases hD : D = d + (j + 1)
        · rw [hD]; exact Rat.le_refl
        · have := h2 D g1 (by omega); grind
      · have := h2 D g1 (by omega); grind
    · have e : likeF n d (j + 1) = likeF n d j := if_neg hc
      rw [e]
      refine ⟨⟨h1.1, by omega⟩, fun D g1 g2 => ?_, h3⟩
      by_cases hD : D = d + (j + 1)
      · rw [hD]; grind
      · exact h2 D g1 (by omega)
theorem occ_pos_ {n D d : Nat} (hd : 1 ≤ d) (hn : d ≤ n) (hD : d ≤ D) : 0 < occ n D d := by
  have hs : ∀ n, ∀ d, 1 ≤ d → d ≤ n → 0 < stir n d := by
    intro n
    induction n with
    | zero => intro d h1 h2; omega
    | succ n ih =>
      intro d h1 h2
      obtain ⟨e, rfl⟩ : ∃ e, d = e + 1 := ⟨d - 1, by omega⟩
      rw [stir_succ]
      rcases Nat.lt_or_ge n (e + 1) with h | h
      · rcases Nat.eq_zero_or_pos e with h0 | h0
        · subst h0
          have : n = 0 := by omega
          subst this
          decide
        · have := ih e h0 (by omega)
          omega
      · have := ih (e + 1) (by omega) h
        have := Nat.mul_pos (show 0 < e + 1 by omega) this
        omega
  have hf : ∀ k, k ≤ D → 0 < fall D k := by
    intro k
    induction k with
    | zero => intro _; exact Nat.one_pos
    | succ k ih => intro hk; rw [fall_succ]; exact Nat.mul_pos (ih (by omega)) (by omega)
  exact Nat.mul_pos (hs n d hd hn) (hf d hD)
theorem pch_zero_iff {n D d : Nat} (hd : 1 ≤ d) (hn : d ≤ n) (h0 : 0 < D) : pch n D d = 0 ↔ D < d := by
  have hp := pow_ne (n := n) h0
  constructor
  · intro h
    refine Nat.lt_of_not_le fun hD => ?_
    have ho := occ_pos_ hd hn hD
    have ho' : ((occ n D d : Nat) : Rat) ≠ 0 := by exact_mod_cast (show occ n D d ≠ 0 from by omega)
    unfold pch at h
    have : (occ n D d : Rat) / ((D ^ n : Nat) : Rat) * ((D ^ n : Nat) : Rat) = 0 := by rw [h]; grind
    rw [Rat.div_mul_cancel hp] at this
    exact ho' this
  · intro h
    unfold pch
    rw [occ_gt (.inr h), Rat.div_def]
    have e : ((0 : Nat) : Rat) = 0 := rfl
    rw [e]; grind

end Go.Proofs.YtnedgbebajhcpaaGreatDoor
