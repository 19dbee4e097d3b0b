/- Uses of dies and the mean number of dies: equal uses give the greatest mean. On rationals; no function is named here. -/
import Derived.Test.YtnedgbebajhcpaaDoorOcB
set_option linter.unusedVariables false
set_option linter.unusedSimpArgs false
namespace Go.Proofs.YtnedgbebajhcpaaDoor
open Num

def pw (x : Rat) : Nat → Rat
  | 0 => 1
  | n + 1 => pw x n * x
theorem pw_nonneg {x : Rat} (h : 0 ≤ x) : ∀ n, 0 ≤ pw x n
  | 0 => by show (0 : Rat) ≤ 1; decide
  | n + 1 => Rat.mul_nonneg (pw_nonneg h n) h
def dT (c : Rat) : Nat → Rat
  | 0 => 0
  | n + 1 => c * dT c n + pw c n
theorem dT_nonneg {c : Rat} (h : 0 ≤ c) : ∀ n, 0 ≤ dT c n
  | 0 => Rat.le_refl
  | n + 1 => Rat.add_nonneg (Rat.mul_nonneg h (dT_nonneg h n)) (pw_nonneg h n)
theorem inv_nonneg_ {x : Rat} (h : 0 ≤ x) : 0 ≤ x⁻¹ := by
  by_cases h0 : x = 0
  · subst h0; decide +kernel
  · exact Rat.le_of_lt (Rat.inv_pos.2 (by grind))
theorem sq_nonneg_ (y : Rat) : 0 ≤ y * y := by
  by_cases h : 0 ≤ y
  · exact Rat.mul_nonneg h h
  · have h' : 0 ≤ -y := by grind
    have := Rat.mul_nonneg h' h'
    grind
/-- The tangent lies below the power. -/
theorem tangent {x c : Rat} (hx : 0 ≤ x) (hc : 0 ≤ c) : ∀ n, pw c n + dT c n * (x - c) ≤ pw x n
  | 0 => by
    show (1 : Rat) + 0 * (x - c) ≤ 1
    grind
  | n + 1 => by
    have ih := Rat.mul_le_mul_of_nonneg_right (tangent hx hc n) hx
    have hd := Rat.mul_nonneg (dT_nonneg hc n) (sq_nonneg_ (x - c))
    show pw c n * c + (c * dT c n + pw c n) * (x - c) ≤ pw x n * x
    have e : (pw c n + dT c n * (x - c)) * x = pw c n * c + (c * dT c n + pw c n) * (x - c) + dT c n * ((x - c) * (x - c)) := by grind
    grind

/-- The sum of a list. -/
def sumL : List Rat → Rat
  | [] => 0
  | q :: l => q + sumL l
theorem sumL_append (a b : List Rat) : sumL (a ++ b) = sumL a + sumL b := by
  induction a with
  | nil => show sumL b = 0 + sumL b; grind
  | cons q l ih => show q + sumL (l ++ b) = q + sumL l + sumL b; rw [ih]; grind
theorem sumL_reverse (a : List Rat) : sumL a.reverse = sumL a := by
  induction a with
  | nil => rfl
  | cons q l ih =>
    rw [List.reverse_cons, sumL_append, ih]
    show sumL l + (q + 0) = q + sumL l
    grind
theorem sumL_tangent {c : Rat} (hc : 0 ≤ c) (n : Nat) : ∀ (l : List Rat), (∀ x ∈ l, 0 ≤ x) → (l.length : Rat) * pw c n + dT c n * (sumL l - (l.length : Rat) * c) ≤ sumL (l.map fun x => pw x n)
  | [], _ => by
    show ((0 : Nat) : Rat) * pw c n + dT c n * (0 - ((0 : Nat) : Rat) * c) ≤ 0
    have : ((0 : Nat) : Rat) = 0 := rfl
    grind
  | q :: l, h => by
    have ih := sumL_tangent hc n l fun x hx => h x (List.mem_cons_of_mem _ hx)
    have ht := tangent (h q (List.mem_cons_self ..)) hc n
    show (((l.length + 1 : Nat) : Rat)) * pw c n + dT c n * (q + sumL l - ((l.length + 1 : Nat) : Rat) * c) ≤ pw q n + sumL (l.map fun x => pw x n)
    rw [Rat.natCast_add]
    have e : ((1 : Nat) : Rat) = 1 := rfl
    rw [e]
    generalize ((l.length : Nat) : Rat) = D at *
    generalize sumL l = S at *
    grind
theorem sumL_power {c : Rat} (hc : 0 ≤ c) (n : Nat) (l : List Rat) (h : ∀ x ∈ l, 0 ≤ x) (hs : sumL l = (l.length : Rat) * c) : (l.length : Rat) * pw c n ≤ sumL (l.map fun x => pw x n) := by
  have := sumL_tangent hc n l h
  rw [hs] at this
  grind

theorem pw_frac {a b : Nat} (hb : b ≠ 0) : ∀ n, pw ((a : Rat) / (b : Rat)) n = ((a ^ n : Nat) : Rat) / ((b ^ n : Nat) : Rat)
  | 0 => by show (1 : Rat) = ((1 : Nat) : Rat) / ((1 : Nat) : Rat); decide +kernel
  | n + 1 => by
    show pw ((a : Rat) / (b : Rat)) n * _ = _
    rw [pw_frac hb n, Nat.pow_succ, Nat.pow_succ, Rat.natCast_mul, Rat.natCast_mul]
    have h1 : (b : Rat) ≠ 0 := by exact_mod_cast hb
    have h2 : ((b ^ n : Nat) : Rat) ≠ 0 := by
      have := Nat.pow_pos (n := n) (Nat.pos_of_ne_zero hb)
      exact_mod_cast (show b ^ n ≠ 0 from by omega)
    generalize ((a ^ n : Nat) : Rat) = X at *
    generalize ((b ^ n : Nat) : Rat) = Y at *
    simp only [Rat.div_def]
    grind
/-- A die's share of the uses is not seen. -/
theorem powQ_pw {u T n : Nat} (hu : u ≤ T) (hT : T ≠ 0) : powQ (one1 - ((u : Int) : Rat) / ((T : Int) : Rat)) n = pw (((T - u : Nat) : Rat) / (T : Rat)) n := by
  have hT' : (T : Rat) ≠ 0 := by exact_mod_cast hT
  have e : one1 - ((u : Int) : Rat) / ((T : Int) : Rat) = frac false (T - u) T := by
    rw [frac_false]
    have h : ((T - u + u : Nat) : Rat) = (T : Rat) := by rw [Nat.sub_add_cancel hu]
    rw [Rat.natCast_add] at h
    rw [Rat.intCast_natCast, Rat.intCast_natCast]
    show ((1 : Int) : Rat) / ((1 : Int) : Rat) - _ = _
    simp only [Rat.intCast_one, Rat.div_def]
    generalize ((T - u : Nat) : Rat) = A at *
    grind
  rw [e, powQ_frac hT, pw_frac hT, frac_false]

/-- The mean number of dies with these uses, as the program reckons it. -/
def unSub (n : Nat) (T : Int) (us : List Int) : Rat := sumL (us.map fun u : Int => powQ (one1 - (u : Rat) / (T : Rat)) n)
def isum : List Int → Int
  | [] => 0
  | u :: l => u + isum l
theorem isum_append (a b : List Int) : isum (a ++ b) = isum a + isum b := by
  induction a with
  | nil => show isum b = 0 + isum b; omega
  | cons q l ih => show q + isum (l ++ b) = q + isum l + isum b; rw [ih]; omega
theorem isum_reverse (a : List Int) : isum a.reverse = isum a := by
  induction a with
  | nil => rfl
  | cons q l ih => rw [List.reverse_cons, isum_append, ih]; show isum l + (q + 0) = q + isum l; omega
def unQ (n : Nat) (us : List Int) : Rat := ((us.length : Int) : Rat) / ((1 : Int) : Rat) - unSub n (isum us) us
theorem unQ_reverse (n : Nat) (us : List Int) : unQ n us.reverse = unQ n us := by
  unfold unQ unSub
  rw [isum_reverse, List.map_reverse, sumL_reverse, List.length_reverse]
theorem isum_pos {us : List Int} (h : ∀ u ∈ us, 1 ≤ u) : (us.length : Int) ≤ isum us := by
  induction us with
  | nil => exact Int.le_refl _
  | cons u l ih =>
    have h1 := h u (List.mem_cons_self ..)
    have h2 := ih fun x hx => h x (List.mem_cons_of_mem _ hx)
    show ((l.length + 1 : Nat) : Int) ≤ u + isum l
    omega
theorem isum_mem {us : List Int} (h : ∀ u ∈ us, 1 ≤ u) : ∀ u ∈ us, u ≤ isum us := by
  induction us with
  | nil => intro u hu; cases hu
  | cons v l ih =>
    intro u hu
    have h1 := h v (List.mem_cons_self ..)
    have h2 := isum_pos fun x hx => h x (List.mem_cons_of_mem _ hx)
    show u ≤ v + isum l
    rcases List.mem_cons.1 hu with rfl | hu
    · omega
    · have := ih (fun x hx => h x (List.mem_cons_of_mem _ hx)) u hu
      omega

theorem unSub_pw {n : Nat} {us : List Int} {T : Nat} (h : ∀ u ∈ us, 1 ≤ u ∧ u ≤ (T : Int)) (hT : T ≠ 0) : unSub n (T : Int) us = sumL ((us.map fun u => ((T - u.toNat : Nat) : Rat) / (T : Rat)).map fun x => pw x n) := by
  unfold unSub
  rw [List.map_map]
  congr 1
  refine List.map_congr_left fun u hu => ?_
  obtain ⟨h1, h2⟩ := h u hu
  obtain ⟨k, rfl⟩ : ∃ k : Nat, u = (k : Int) := ⟨u.toNat, by omega⟩
  rw [powQ_pw (by omega) hT]
  rfl
theorem less_sum {us : List Int} {T : Nat} (h : ∀ u ∈ us, 1 ≤ u ∧ u ≤ (T : Int)) (hT : T ≠ 0) : sumL (us.map fun u => ((T - u.toNat : Nat) : Rat) / (T : Rat)) = (us.length : Rat) - (isum us : Rat) / (T : Rat) := by
  have hT' : (T : Rat) ≠ 0 := by exact_mod_cast hT
  induction us with
  | nil =>
    show (0 : Rat) = ((0 : Nat) : Rat) - ((0 : Int) : Rat) / (T : Rat)
    have e1 : ((0 : Nat) : Rat) = 0 := rfl
    have e2 : ((0 : Int) : Rat) = 0 := rfl
    rw [e1, e2, Rat.div_def]
    grind
  | cons u l ih =>
    obtain ⟨h1, h2⟩ := h u (List.mem_cons_self ..)
    have ih := ih fun x hx => h x (List.mem_cons_of_mem _ hx)
    obtain ⟨k, rfl⟩ : ∃ k : Nat, u = (k : Int) := ⟨u.toNat, by omega⟩
    have hk : ((T - k + k : Nat) : Rat) = (T : Rat) := by rw [Nat.sub_add_cancel (by omega)]
    rw [Rat.natCast_add] at hk
    show ((T - k : Nat) : Rat) / (T : Rat) + sumL (l.map fun u => ((T - u.toNat : Nat) : Rat) / (T : Rat)) = ((l.length + 1 : Nat) : Rat) - (((k : Int) + isum l : Int) : Rat) / (T : Rat)
    rw [ih, Rat.natCast_add, Rat.intCast_add, Rat.intCast_natCast]
    have e : ((1 : Nat) : Rat) = 1 := rfl
    rw [e]
    simp only [Rat.div_def]
    generalize ((T - k : Nat) : Rat) = A at *
    generalize ((l.length : Nat) : Rat) = D at *
    grind

theorem toNat_cast {us : List Int} (h : ∀ u ∈ us, 1 ≤ u) : ∃ T : Nat, isum us = (T : Int) ∧ us.length ≤ T := by
  have := isum_pos h
  exact ⟨(isum us).toNat, by omega, by omega⟩
/-- Equal uses: the mean of as many dies. -/
theorem unQ_equal {n D : Nat} {u : Int} (hu : 1 ≤ u) (hD : 1 ≤ D) : unQ n (List.replicate D u) = meanQ n D := by
  have hs : ∀ D : Nat, isum (List.replicate D u) = (D : Int) * u := by
    intro D
    induction D with
    | zero => simp [isum]
    | succ D ih => rw [List.replicate_succ]; show u + isum _ = _; rw [ih]; rw [Int.natCast_add, Int.add_mul]; omega
  have hu' : (u : Rat) ≠ 0 := by
    intro h
    have : u = 0 := by exact_mod_cast h
    omega
  have hD' : ((D : Int) : Rat) ≠ 0 := by
    intro h
    have : (D : Int) = 0 := by exact_mod_cast h
    omega
  have hv : (u : Rat) / (((D : Int) * u : Int) : Rat) = ((1 : Int) : Rat) / ((D : Int) : Rat) := by
    rw [Rat.intCast_mul]
    have e : ((1 : Int) : Rat) = 1 := rfl
    rw [e]
    simp only [Rat.div_def]
    grind
  have hr : ∀ (q : Rat) (D : Nat), sumL (List.replicate D q) = ((D : Int) : Rat) * q := by
    intro q D
    induction D with
    | zero =>
      show (0 : Rat) = ((0 : Int) : Rat) * q
      have e : ((0 : Int) : Rat) = 0 := rfl
      rw [e]; grind
    | succ D ih =>
      rw [List.replicate_succ]
      show q + sumL _ = _
      rw [ih, Int.natCast_add, Rat.intCast_add]
      have e : (((1 : Nat) : Int) : Rat) = 1 := rfl
      rw [e]; grind
  unfold unQ unSub meanQ
  rw [List.length_replicate, hs, List.map_replicate, hv, hr]
  generalize powQ (one1 - ((1 : Int) : Rat) / ((D : Int) : Rat)) n = P
  have e : ((1 : Int) : Rat) = 1 := rfl
  simp only [one1, e, Rat.div_def]
  generalize ((D : Int) : Rat) = E at *
  grind
/-- No other uses give a greater mean. -/
theorem unQ_le {n : Nat} {us : List Int} (h : ∀ u ∈ us, 1 ≤ u) (hl : 1 ≤ us.length) : unQ n us ≤ meanQ n us.length := by
  obtain ⟨T, hT, hTl⟩ := toNat_cast h
  have hm : ∀ u ∈ us, 1 ≤ u ∧ u ≤ (T : Int) := fun u hu => ⟨h u hu, by rw [← hT]; exact isum_mem h u hu⟩
  have hT0 : T ≠ 0 := by omega
  have hT' : (T : Rat) ≠ 0 := by exact_mod_cast hT0
  obtain ⟨D, hD⟩ : ∃ D, D = us.length := ⟨_, rfl⟩
  have hD' : (D : Rat) ≠ 0 := by exact_mod_cast (show D ≠ 0 from by omega)
  have hs := less_sum hm hT0
  rw [hT, Rat.intCast_natCast, ← hD] at hs
  have hone : (T : Rat) / (T : Rat) = 1 := by rw [Rat.div_def]; exact Rat.mul_inv_cancel _ hT'
  rw [hone] at hs
  have hDm : ((D - 1 : Nat) : Rat) = (D : Rat) - 1 := by
    have e : ((D - 1 + 1 : Nat) : Rat) = (D : Rat) := by rw [show D - 1 + 1 = D from by omega]
    rw [Rat.natCast_add] at e
    have h1 : ((1 : Nat) : Rat) = 1 := rfl
    grind
  have hc : (0 : Rat) ≤ ((D - 1 : Nat) : Rat) / (D : Rat) := by
    rw [Rat.div_def]
    exact Rat.mul_nonneg (by exact_mod_cast Nat.zero_le _) (inv_nonneg_ (by exact_mod_cast Nat.zero_le _))
  have hp := sumL_power hc n (us.map fun u => ((T - u.toNat : Nat) : Rat) / (T : Rat)) (by
    intro x hx
    obtain ⟨u, _, rfl⟩ := List.mem_map.1 hx
    rw [Rat.div_def]
    exact Rat.mul_nonneg (by exact_mod_cast Nat.zero_le _) (inv_nonneg_ (by exact_mod_cast Nat.zero_le _))) (by
    rw [hs, List.length_map, ← hD, hDm, Rat.div_def]
    grind)
  rw [List.length_map, ← hD] at hp
  unfold unQ meanQ
  rw [hT, unSub_pw hm hT0, ← hD]
  have hq := powQ_pw (u := 1) (T := D) (n := n) (by omega) (by omega)
  rw [show ((1 : Nat) : Int) = 1 from rfl] at hq
  rw [hq]
  generalize sumL ((us.map fun u => ((T - u.toNat : Nat) : Rat) / (T : Rat)).map fun x => pw x n) = S at *
  generalize pw (((D - 1 : Nat) : Rat) / (D : Rat)) n = P at *
  have e : ((1 : Int) : Rat) = 1 := rfl
  rw [Rat.intCast_natCast]
  simp only [one1, e, Rat.div_def]
  generalize (D : Rat) = E at *
  grind

end Go.Proofs.YtnedgbebajhcpaaDoor
