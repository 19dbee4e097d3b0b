/- Means of further specimens: differences, and the best way to divide specimens. Plain law, on rationals. No function is named here. -/
import Derived.Test.YtnedgbebajhcpaaDoorOccE
set_option linter.unusedVariables false
set_option linter.unusedSimpArgs false
namespace Go.Proofs.YtnedgbebajhcpaaDoor
open Num

/-- The chance that one more specimen, behind n, shows a given die first. -/
def dlt (D n : Nat) : Rat := pw (((D - 1 : Nat) : Rat) / (D : Rat)) n
theorem share_nonneg (D : Nat) : (0 : Rat) ≤ ((D - 1 : Nat) : Rat) / (D : Rat) := by
  rw [Rat.div_def]
  exact Rat.mul_nonneg (by exact_mod_cast Nat.zero_le _) (inv_nonneg_ (by exact_mod_cast Nat.zero_le _))
theorem dlt_nonneg (D n : Nat) : 0 ≤ dlt D n := pw_nonneg (share_nonneg D) n
theorem less_cast {D : Nat} (hD : 1 ≤ D) : ((D - 1 : Nat) : Rat) = (D : Rat) - 1 := by
  have e : ((D - 1 + 1 : Nat) : Rat) = (D : Rat) := by rw [show D - 1 + 1 = D from by omega]
  rw [Rat.natCast_add] at e
  have h1 : ((1 : Nat) : Rat) = 1 := rfl
  grind
theorem meanQ_pw {n D : Nat} (hD : 1 ≤ D) : meanQ n D = (D : Rat) * (1 - dlt D n) := by
  unfold meanQ dlt
  have hq := powQ_pw (u := 1) (T := D) (n := n) hD (by omega)
  rw [show ((1 : Nat) : Int) = 1 from rfl] at hq
  rw [hq, Rat.intCast_natCast]
  have e : ((1 : Int) : Rat) = 1 := rfl
  simp only [one1, e, Rat.div_def]
  grind
theorem meanQ_next {n D : Nat} (hD : 1 ≤ D) : meanQ (n + 1) D - meanQ n D = dlt D n := by
  have hD' : (D : Rat) ≠ 0 := by exact_mod_cast (show D ≠ 0 from by omega)
  rw [meanQ_pw hD, meanQ_pw hD]
  have e : dlt D (n + 1) = dlt D n * (((D - 1 : Nat) : Rat) / (D : Rat)) := rfl
  rw [e, less_cast hD, Rat.div_def]
  grind
theorem dlt_next {n D : Nat} (hD : 1 ≤ D) : dlt D (n + 1) ≤ dlt D n := by
  have hD' : (0 : Rat) < (D : Rat) := by exact_mod_cast (show 0 < D from by omega)
  have hn := dlt_nonneg D n
  have e : dlt D (n + 1) = dlt D n * (((D - 1 : Nat) : Rat) / (D : Rat)) := rfl
  have hi := inv_nonneg_ (Rat.le_of_lt hD')
  have hm := Rat.mul_nonneg hn hi
  have hne : (D : Rat) ≠ 0 := by grind
  rw [e, less_cast hD, Rat.div_def]
  have e2 : dlt D n * (((D : Rat) - 1) * (D : Rat)⁻¹) = dlt D n - dlt D n * (D : Rat)⁻¹ := by grind
  rw [e2]
  grind
theorem dlt_mono {D n m : Nat} (hD : 1 ≤ D) (h : n ≤ m) : dlt D m ≤ dlt D n := by
  induction m with
  | zero => rw [show n = 0 from by omega]; exact Rat.le_refl
  | succ m ih =>
    rcases Nat.lt_or_ge m n with h' | h'
    · rw [show n = m + 1 from by omega]; exact Rat.le_refl
    · have := ih h'; have := dlt_next (n := m) hD; grind
/-- So many more: at most so many times the first one. -/
theorem mean_up {D n : Nat} (hD : 1 ≤ D) : ∀ k : Nat, meanQ (n + k) D - meanQ n D ≤ (k : Rat) * dlt D n
  | 0 => by
    rw [Nat.add_zero]
    have e : ((0 : Nat) : Rat) = 0 := rfl
    rw [e]; grind
  | k + 1 => by
    have ih := mean_up hD k (n := n)
    have h1 := meanQ_next (n := n + k) hD
    have h2 := dlt_mono (D := D) (n := n) (m := n + k) hD (by omega)
    rw [← Nat.add_assoc, Rat.natCast_add]
    have e : ((1 : Nat) : Rat) = 1 := rfl
    rw [e]; grind
/-- So many less: at least so many times the last one. -/
theorem mean_down {D n : Nat} (hD : 1 ≤ D) : ∀ k : Nat, (k : Rat) * dlt D (n + k - 1) ≤ meanQ (n + k) D - meanQ n D
  | 0 => by
    rw [Nat.add_zero]
    have e : ((0 : Nat) : Rat) = 0 := rfl
    rw [e]; grind
  | k + 1 => by
    have ih := mean_down hD k (n := n)
    have h1 := meanQ_next (n := n + k) hD
    rw [show n + (k + 1) - 1 = n + k from by omega, ← Nat.add_assoc, Rat.natCast_add]
    have e : ((1 : Nat) : Rat) = 1 := rfl
    rw [e]
    have h2 : (k : Rat) * dlt D (n + k) ≤ (k : Rat) * dlt D (n + k - 1) :=
      Rat.mul_le_mul_of_nonneg_left (dlt_mono hD (by omega)) (by exact_mod_cast Nat.zero_le _)
    grind
/-- The sum of the means, series by series. -/
def gainQ (D l : Nat → Nat) (m : Nat) : Rat := sumQ (fun i => meanQ (l i) (D i)) m
theorem best_price {D l a : Nat → Nat} : ∀ m, ∃ p : Rat, (p = 0 ∨ ∃ k, k < m ∧ l k < a k ∧ p = dlt (D k) (l k)) ∧ 0 ≤ p ∧ ∀ k, k < m → l k < a k → dlt (D k) (l k) ≤ p
  | 0 => ⟨0, .inl rfl, Rat.le_refl, fun k hk => by omega⟩
  | m + 1 => by
    obtain ⟨p, hp, h0, hall⟩ := best_price (D := D) (l := l) (a := a) m
    by_cases hm : l m < a m ∧ p < dlt (D m) (l m)
    · refine ⟨dlt (D m) (l m), .inr ⟨m, by omega, hm.1, rfl⟩, dlt_nonneg _ _, fun k hk hl => ?_⟩
      rcases Nat.lt_or_ge k m with h | h
      · have := hall k h hl; have := hm.2; grind
      · rw [show k = m from by omega]; exact Rat.le_refl
    · refine ⟨p, ?_, h0, fun k hk hl => ?_⟩
      · rcases hp with h | ⟨k, h1, h2⟩
        · exact .inl h
        · exact .inr ⟨k, by omega, h2⟩
      · rcases Nat.lt_or_ge k m with h | h
        · exact hall k h hl
        · obtain rfl : k = m := by omega
          have : ¬ p < dlt (D k) (l k) := fun h' => hm ⟨hl, h'⟩
          grind
/-- What no move of one specimen improves is as good as any other way to divide as many. -/
theorem local_best {D l a : Nat → Nat} {m : Nat} (hD : ∀ i, i < m → 1 ≤ D i) (hs : sumTo l m = sumTo a m) (hloc : ∀ i k, i < m → k < m → i ≠ k → 0 < l i → dlt (D k) (l k) ≤ dlt (D i) (l i - 1)) : gainQ D a m ≤ gainQ D l m := by
  obtain ⟨p, hp, h0, hup⟩ := best_price (D := D) (l := l) (a := a) m
  have hdown : ∀ i, i < m → a i < l i → p ≤ dlt (D i) (l i - 1) := by
    intro i hi hl
    rcases hp with h | ⟨k, hk, hkl, h⟩
    · rw [h]; exact dlt_nonneg _ _
    · rw [h]
      exact hloc i k hi hk (fun e => by subst e; omega) (by omega)
  have hterm : ∀ i, i < m → meanQ (a i) (D i) - meanQ (l i) (D i) ≤ p * ((a i : Rat) - (l i : Rat)) := by
    intro i hi
    rcases Nat.lt_trichotomy (l i) (a i) with h | h | h
    · obtain ⟨k, hk⟩ : ∃ k, a i = l i + k := ⟨a i - l i, by omega⟩
      have h1 := mean_up (n := l i) (hD i hi) k
      have h2 := Rat.mul_le_mul_of_nonneg_left (hup i hi h) (show (0 : Rat) ≤ (k : Rat) by exact_mod_cast Nat.zero_le _)
      rw [hk, Rat.natCast_add]
      grind
    · rw [h]; grind
    · obtain ⟨k, hk⟩ : ∃ k, l i = a i + k := ⟨l i - a i, by omega⟩
      have h1 := mean_down (n := a i) (hD i hi) k
      have hd := hdown i hi h
      rw [hk] at hd ⊢
      have h2 := Rat.mul_le_mul_of_nonneg_left hd (show (0 : Rat) ≤ (k : Rat) by exact_mod_cast Nat.zero_le _)
      rw [Rat.natCast_add]
      grind
  have hsum : ∀ j, j ≤ m → gainQ D a j - gainQ D l j ≤ p * ((sumTo a j : Rat) - (sumTo l j : Rat)) := by
    intro j
    induction j with
    | zero =>
      intro _
      show (0 : Rat) - 0 ≤ p * (((0 : Nat) : Rat) - ((0 : Nat) : Rat))
      grind
    | succ j ih =>
      intro hj
      have ih := ih (by omega)
      have ht := hterm j (by omega)
      unfold gainQ at ih ⊢
      rw [sumQ_succ, sumQ_succ, sumTo_succ, sumTo_succ, Rat.natCast_add, Rat.natCast_add]
      grind
  have h1 := hsum m (Nat.le_refl _)
  rw [hs] at h1
  grind

end Go.Proofs.YtnedgbebajhcpaaDoor
