/- Uses of dies and the mean number of dies: equal uses give the greatest mean. On rationals; no function is named here. Means of further specimens: differences, and the best way to divide specimens. Plain law, on rationals. No function is named here. The ways to divide specimens, one by one, and the first best one. Plain law. No function is named here. Fixed values of splits. Plain law. No function is named here. -/
import Derived.Test.YtnedgbebajhcpaaDoorOcB
set_option linter.unusedVariables false
set_option linter.unusedSimpArgs false
namespace Go.Proofs.YtnedgbebajhcpaaDoor
open Num

def pw (x : Rat) : Nat → Rat
  | 0 => 1
  | n + 1 => pw x n * x
theorem pw_nonneg {x : Rat} (h : 0 ≤ x) : ∀ n, 0 ≤ pw x n
  | 0 => by show (0 : Rat) ≤ 1; decide
  | n + 1 => Rat.mul_nonneg (pw_nonneg h n) h
def dT (c : Rat) : Nat → Rat
  | 0 => 0
  | n + 1 => c * dT c n + pw c n
theorem dT_nonneg {c : Rat} (h : 0 ≤ c) : ∀ n, 0 ≤ dT c n
  | 0 => Rat.le_refl
  | n + 1 => Rat.add_nonneg (Rat.mul_nonneg h (dT_nonneg h n)) (pw_nonneg h n)
theorem inv_nonneg_ {x : Rat} (h : 0 ≤ x) : 0 ≤ x⁻¹ := by
  by_cases h0 : x = 0
  · subst h0; decide +kernel
  · exact Rat.le_of_lt (Rat.inv_pos.2 (by grind))
theorem sq_nonneg_ (y : Rat) : 0 ≤ y * y := by
  by_cases h : 0 ≤ y
  · exact Rat.mul_nonneg h h
  · have h' : 0 ≤ -y := by grind
    have := Rat.mul_nonneg h' h'
    grind
/-- The tangent lies below the power. -/
theorem tangent {x c : Rat} (hx : 0 ≤ x) (hc : 0 ≤ c) : ∀ n, pw c n + dT c n * (x - c) ≤ pw x n
  | 0 => by
    show (1 : Rat) + 0 * (x - c) ≤ 1
    grind
  | n + 1 => by
    have ih := Rat.mul_le_mul_of_nonneg_right (tangent hx hc n) hx
    have hd := Rat.mul_nonneg (dT_nonneg hc n) (sq_nonneg_ (x - c))
    show pw c n * c + (c * dT c n + pw c n) * (x - c) ≤ pw x n * x
    have e : (pw c n + dT c n * (x - c)) * x = pw c n * c + (c * dT c n + pw c n) * (x - c) + dT c n * ((x - c) * (x - c)) := by grind
    grind

/-- The sum of a list. -/
def sumL : List Rat → Rat
  | [] => 0
  | q :: l => q + sumL l
theorem sumL_append (a b : List Rat) : sumL (a ++ b) = sumL a + sumL b := by
  induction a with
  | nil => show sumL b = 0 + sumL b; grind
  | cons q l ih => show q + sumL (l ++ b) = q + sumL l + sumL b; rw [ih]; grind
theorem sumL_reverse (a : List Rat) : sumL a.reverse = sumL a := by
  induction a with
  | nil => rfl
  | cons q l ih =>
    rw [List.reverse_cons, sumL_append, ih]
    show sumL l + (q + 0) = q + sumL l
    grind
theorem sumL_tangent {c : Rat} (hc : 0 ≤ c) (n : Nat) : ∀ (l : List Rat), (∀ x ∈ l, 0 ≤ x) → (l.length : Rat) * pw c n + dT c n * (sumL l - (l.length : Rat) * c) ≤ sumL (l.map fun x => pw x n)
  | [], _ => by
    show ((0 : Nat) : Rat) * pw c n + dT c n * (0 - ((0 : Nat) : Rat) * c) ≤ 0
    have : ((0 : Nat) : Rat) = 0 := rfl
    grind
  | q :: l, h => by
    have ih := sumL_tangent hc n l fun x hx => h x (List.mem_cons_of_mem _ hx)
    have ht := tangent (h q (List.mem_cons_self ..)) hc n
    show (((l.length + 1 : Nat) : Rat)) * pw c n + dT c n * (q + sumL l - ((l.length + 1 : Nat) : Rat) * c) ≤ pw q n + sumL (l.map fun x => pw x n)
    rw [Rat.natCast_add]
    have e : ((1 : Nat) : Rat) = 1 := rfl
    rw [e]
    generalize ((l.length : Nat) : Rat) = D at *
    generalize sumL l = S at *
    grind
theorem sumL_power {c : Rat} (hc : 0 ≤ c) (n : Nat) (l : List Rat) (h : ∀ x ∈ l, 0 ≤ x) (hs : sumL l = (l.length : Rat) * c) : (l.length : Rat) * pw c n ≤ sumL (l.map fun x => pw x n) := by
  have := sumL_tangent hc n l h
  rw [hs] at this
  grind

theorem pw_frac {a b : Nat} (hb : b ≠ 0) : ∀ n, pw ((a : Rat) / (b : Rat)) n = ((a ^ n : Nat) : Rat) / ((b ^ n : Nat) : Rat)
  | 0 => by show (1 : Rat) = ((1 : Nat) : Rat) / ((1 : Nat) : Rat); decide +kernel
  | n + 1 => by
    show pw ((a : Rat) / (b : Rat)) n * _ = _
    rw [pw_frac hb n, Nat.pow_succ, Nat.pow_succ, Rat.natCast_mul, Rat.natCast_mul]
    have h1 : (b : Rat) ≠ 0 := by exact_mod_cast hb
    have h2 : ((b ^ n : Nat) : Rat) ≠ 0 := by
      have := Nat.pow_pos (n := n) (Nat.pos_of_ne_zero hb)
      exact_mod_cast (show b ^ n ≠ 0 from by omega)
    generalize ((a ^ n : Nat) : Rat) = X at *
    generalize ((b ^ n : Nat) : Rat) = Y at *
    simp only [Rat.div_def]
    grind
/-- A die's share of the uses is not seen. -/
theorem powQ_pw {u T n : Nat} (hu : u ≤ T) (hT : T ≠ 0) : powQ (one1 - ((u : Int) : Rat) / ((T : Int) : Rat)) n = pw (((T - u : Nat) : Rat) / (T : Rat)) n := by
  have hT' : (T : Rat) ≠ 0 := by exact_mod_cast hT
  have e : one1 - ((u : Int) : Rat) / ((T : Int) : Rat) = frac false (T - u) T := by
    rw [frac_false]
    have h : ((T - u + u : Nat) : Rat) = (T : Rat) := by rw [Nat.sub_add_cancel hu]
    rw [Rat.natCast_add] at h
    rw [Rat.intCast_natCast, Rat.intCast_natCast]
    show ((1 : Int) : Rat) / ((1 : Int) : Rat) - _ = _
    simp only [Rat.intCast_one, Rat.div_def]
    generalize ((T - u : Nat) : Rat) = A at *
    grind
  rw [e, powQ_frac hT, pw_frac hT, frac_false]

/-- The mean number of dies with these uses, as the program reckons it. -/
def unSub (n : Nat) (T : Int) (us : List Int) : Rat := sumL (us.map fun u : Int => powQ (one1 - (u : Rat) / (T : Rat)) n)
def isum : List Int → Int
  | [] => 0
  | u :: l => u + isum l
theorem isum_append (a b : List Int) : isum (a ++ b) = isum a + isum b := by
  induction a with
  | nil => show isum b = 0 + isum b; omega
  | cons q l ih => show q + isum (l ++ b) = q + isum l + isum b; rw [ih]; omega
theorem isum_reverse (a : List Int) : isum a.reverse = isum a := by
  induction a with
  | nil => rfl
  | cons q l ih => rw [List.reverse_cons, isum_append, ih]; show isum l + (q + 0) = q + isum l; omega
def unQ (n : Nat) (us : List Int) : Rat := ((us.length : Int) : Rat) / ((1 : Int) : Rat) - unSub n (isum us) us
theorem unQ_reverse (n : Nat) (us : List Int) : unQ n us.reverse = unQ n us := by
  unfold unQ unSub
  rw [isum_reverse, List.map_reverse, sumL_reverse, List.length_reverse]
theorem isum_pos {us : List Int} (h : ∀ u ∈ us, 1 ≤ u) : (us.length : Int) ≤ isum us := by
  induction us with
  | nil => exact Int.le_refl _
  | cons u l ih =>
    have h1 := h u (List.mem_cons_self ..)
    have h2 := ih fun x hx => h x (List.mem_cons_of_mem _ hx)
    show ((l.length + 1 : Nat) : Int) ≤ u + isum l
    omega
theorem isum_mem {us : List Int} (h : ∀ u ∈ us, 1 ≤ u) : ∀ u ∈ us, u ≤ isum us := by
  induction us with
  | nil => intro u hu; cases hu
  | cons v l ih =>
    intro u hu
    have h1 := h v (List.mem_cons_self ..)
    have h2 := isum_pos fun x hx => h x (List.mem_cons_of_mem _ hx)
    show u ≤ v + isum l
    rcases List.mem_cons.1 hu with rfl | hu
    · omega
    · have := ih (fun x hx => h x (List.mem_cons_of_mem _ hx)) u hu
      omega

theorem unSub_pw {n : Nat} {us : List Int} {T : Nat} (h : ∀ u ∈ us, 1 ≤ u ∧ u ≤ (T : Int)) (hT : T ≠ 0) : unSub n (T : Int) us = sumL ((us.map fun u => ((T - u.toNat : Nat) : Rat) / (T : Rat)).map fun x => pw x n) := by
  unfold unSub
  rw [List.map_map]
  congr 1
  refine List.map_congr_left fun u hu => ?_
  obtain ⟨h1, h2⟩ := h u hu
  obtain ⟨k, rfl⟩ : ∃ k : Nat, u = (k : Int) := ⟨u.toNat, by omega⟩
  rw [powQ_pw (by omega) hT]
  rfl
theorem less_sum {us : List Int} {T : Nat} (h : ∀ u ∈ us, 1 ≤ u ∧ u ≤ (T : Int)) (hT : T ≠ 0) : sumL (us.map fun u => ((T - u.toNat : Nat) : Rat) / (T : Rat)) = (us.length : Rat) - (isum us : Rat) / (T : Rat) := by
  have hT' : (T : Rat) ≠ 0 := by exact_mod_cast hT
  induction us with
  | nil =>
    show (0 : Rat) = ((0 : Nat) : Rat) - ((0 : Int) : Rat) / (T : Rat)
    have e1 : ((0 : Nat) : Rat) = 0 := rfl
    have e2 : ((0 : Int) : Rat) = 0 := rfl
    rw [e1, e2, Rat.div_def]
    grind
  | cons u l ih =>
    obtain ⟨h1, h2⟩ := h u (List.mem_cons_self ..)
    have ih := ih fun x hx => h x (List.mem_cons_of_mem _ hx)
    obtain ⟨k, rfl⟩ : ∃ k : Nat, u = (k : Int) := ⟨u.toNat, by omega⟩
    have hk : ((T - k + k : Nat) : Rat) = (T : Rat) := by rw [Nat.sub_add_cancel (by omega)]
    rw [Rat.natCast_add] at hk
    show ((T - k : Nat) : Rat) / (T : Rat) + sumL (l.map fun u => ((T - u.toNat : Nat) : Rat) / (T : Rat)) = ((l.length + 1 : Nat) : Rat) - (((k : Int) + isum l : Int) : Rat) / (T : Rat)
    rw [ih, Rat.natCast_add, Rat.intCast_add, Rat.intCast_natCast]
    have e : ((1 : Nat) : Rat) = 1 := rfl
    rw [e]
    simp only [Rat.div_def]
    generalize ((T - k : Nat) : Rat) = A at *
    generalize ((l.length : Nat) : Rat) = D at *
    grind

theorem toNat_cast {us : List Int} (h : ∀ u ∈ us, 1 ≤ u) : ∃ T : Nat, isum us = (T : Int) ∧ us.length ≤ T := by
  have := isum_pos h
  exact ⟨(isum us).toNat, by omega, by omega⟩
/-- Equal uses: the mean of as many dies. -/
theorem unQ_equal {n D : Nat} {u : Int} (hu : 1 ≤ u) (hD : 1 ≤ D) : unQ n (List.replicate D u) = meanQ n D := by
  have hs : ∀ D : Nat, isum (List.replicate D u) = (D : Int) * u := by
    intro D
    induction D with
    | zero => simp [isum]
    | succ D ih => rw [List.replicate_succ]; show u + isum _ = _; rw [ih]; rw [Int.natCast_add, Int.add_mul]; omega
  have hu' : (u : Rat) ≠ 0 := by
    intro h
    have : u = 0 := by exact_mod_cast h
    omega
  have hD' : ((D : Int) : Rat) ≠ 0 := by
    intro h
    have : (D : Int) = 0 := by exact_mod_cast h
    omega
  have hv : (u : Rat) / (((D : Int) * u : Int) : Rat) = ((1 : Int) : Rat) / ((D : Int) : Rat) := by
    rw [Rat.intCast_mul]
    have e : ((1 : Int) : Rat) = 1 := rfl
    rw [e]
    simp only [Rat.div_def]
    grind
  have hr : ∀ (q : Rat) (D : Nat), sumL (List.replicate D q) = ((D : Int) : Rat) * q := by
    intro q D
    induction D with
    | zero =>
      show (0 : Rat) = ((0 : Int) : Rat) * q
      have e : ((0 : Int) : Rat) = 0 := rfl
      rw [e]; grind
    | succ D ih =>
      rw [List.replicate_succ]
      show q + sumL _ = _
      rw [ih, Int.natCast_add, Rat.intCast_add]
      have e : (((1 : Nat) : Int) : Rat) = 1 := rfl
      rw [e]; grind
  unfold unQ unSub meanQ
  rw [List.length_replicate, hs, List.map_replicate, hv, hr]
  generalize powQ (one1 - ((1 : Int) : Rat) / ((D : Int) : Rat)) n = P
  have e : ((1 : Int) : Rat) = 1 := rfl
  simp only [one1, e, Rat.div_def]
  generalize ((D : Int) : Rat) = E at *
  grind
/-- No other uses give a greater mean. -/
theorem unQ_le {n : Nat} {us : List Int} (h : ∀ u ∈ us, 1 ≤ u) (hl : 1 ≤ us.length) : unQ n us ≤ meanQ n us.length := by
  obtain ⟨T, hT, hTl⟩ := toNat_cast h
  have hm : ∀ u ∈ us, 1 ≤ u ∧ u ≤ (T : Int) := fun u hu => ⟨h u hu, by rw [← hT]; exact isum_mem h u hu⟩
  have hT0 : T ≠ 0 := by omega
  have hT' : (T : Rat) ≠ 0 := by exact_mod_cast hT0
  obtain ⟨D, hD⟩ : ∃ D, D = us.length := ⟨_, rfl⟩
  have hD' : (D : Rat) ≠ 0 := by exact_mod_cast (show D ≠ 0 from by omega)
  have hs := less_sum hm hT0
  rw [hT, Rat.intCast_natCast, ← hD] at hs
  have hone : (T : Rat) / (T : Rat) = 1 := by rw [Rat.div_def]; exact Rat.mul_inv_cancel _ hT'
  rw [hone] at hs
  have hDm : ((D - 1 : Nat) : Rat) = (D : Rat) - 1 := by
    have e : ((D - 1 + 1 : Nat) : Rat) = (D : Rat) := by rw [show D - 1 + 1 = D from by omega]
    rw [Rat.natCast_add] at e
    have h1 : ((1 : Nat) : Rat) = 1 := rfl
    grind
  have hc : (0 : Rat) ≤ ((D - 1 : Nat) : Rat) / (D : Rat) := by
    rw [Rat.div_def]
    exact Rat.mul_nonneg (by exact_mod_cast Nat.zero_le _) (inv_nonneg_ (by exact_mod_cast Nat.zero_le _))
  have hp := sumL_power hc n (us.map fun u => ((T - u.toNat : Nat) : Rat) / (T : Rat)) (by
    intro x hx
    obtain ⟨u, _, rfl⟩ := List.mem_map.1 hx
    rw [Rat.div_def]
    exact Rat.mul_nonneg (by exact_mod_cast Nat.zero_le _) (inv_nonneg_ (by exact_mod_cast Nat.zero_le _))) (by
    rw [hs, List.length_map, ← hD, hDm, Rat.div_def]
    grind)
  rw [List.length_map, ← hD] at hp
  unfold unQ meanQ
  rw [hT, unSub_pw hm hT0, ← hD]
  have hq := powQ_pw (u := 1) (T := D) (n := n) (by omega) (by omega)
  rw [show ((1 : Nat) : Int) = 1 from rfl] at hq
  rw [hq]
  generalize sumL ((us.map fun u => ((T - u.toNat : Nat) : Rat) / (T : Rat)).map fun x => pw x n) = S at *
  generalize pw (((D - 1 : Nat) : Rat) / (D : Rat)) n = P at *
  have e : ((1 : Int) : Rat) = 1 := rfl
  rw [Rat.intCast_natCast]
  simp only [one1, e, Rat.div_def]
  generalize (D : Rat) = E at *
  grind

end Go.Proofs.YtnedgbebajhcpaaDoor
namespace Go.Proofs.YtnedgbebajhcpaaDoor
open Num

/-- The chance that one more specimen, behind n, shows a given die first. -/
def dlt (D n : Nat) : Rat := pw (((D - 1 : Nat) : Rat) / (D : Rat)) n
theorem share_nonneg (D : Nat) : (0 : Rat) ≤ ((D - 1 : Nat) : Rat) / (D : Rat) := by
  rw [Rat.div_def]
  exact Rat.mul_nonneg (by exact_mod_cast Nat.zero_le _) (inv_nonneg_ (by exact_mod_cast Nat.zero_le _))
theorem dlt_nonneg (D n : Nat) : 0 ≤ dlt D n := pw_nonneg (share_nonneg D) n
theorem less_cast {D : Nat} (hD : 1 ≤ D) : ((D - 1 : Nat) : Rat) = (D : Rat) - 1 := by
  have e : ((D - 1 + 1 : Nat) : Rat) = (D : Rat) := by rw [show D - 1 + 1 = D from by omega]
  rw [Rat.natCast_add] at e
  have h1 : ((1 : Nat) : Rat) = 1 := rfl
  grind
theorem meanQ_pw {n D : Nat} (hD : 1 ≤ D) : meanQ n D = (D : Rat) * (1 - dlt D n) := by
  unfold meanQ dlt
  have hq := powQ_pw (u := 1) (T := D) (n := n) hD (by omega)
  rw [show ((1 : Nat) : Int) = 1 from rfl] at hq
  rw [hq, Rat.intCast_natCast]
  have e : ((1 : Int) : Rat) = 1 := rfl
  simp only [one1, e, Rat.div_def]
  grind
theorem meanQ_next {n D : Nat} (hD : 1 ≤ D) : meanQ (n + 1) D - meanQ n D = dlt D n := by
  have hD' : (D : Rat) ≠ 0 := by exact_mod_cast (show D ≠ 0 from by omega)
  rw [meanQ_pw hD, meanQ_pw hD]
  have e : dlt D (n + 1) = dlt D n * (((D - 1 : Nat) : Rat) / (D : Rat)) := rfl
  rw [e, less_cast hD, Rat.div_def]
  grind
theorem dlt_next {n D : Nat} (hD : 1 ≤ D) : dlt D (n + 1) ≤ dlt D n := by
  have hD' : (0 : Rat) < (D : Rat) := by exact_mod_cast (show 0 < D from by omega)
  have hn := dlt_nonneg D n
  have e : dlt D (n + 1) = dlt D n * (((D - 1 : Nat) : Rat) / (D : Rat)) := rfl
  have hi := inv_nonneg_ (Rat.le_of_lt hD')
  have hm := Rat.mul_nonneg hn hi
  have hne : (D : Rat) ≠ 0 := by grind
  rw [e, less_cast hD, Rat.div_def]
  have e2 : dlt D n * (((D : Rat) - 1) * (D : Rat)⁻¹) = dlt D n - dlt D n * (D : Rat)⁻¹ := by grind
  rw [e2]
  grind
theorem dlt_mono {D n m : Nat} (hD : 1 ≤ D) (h : n ≤ m) : dlt D m ≤ dlt D n := by
  induction m with
  | zero => rw [show n = 0 from by omega]; exact Rat.le_refl
  | succ m ih =>
    rcases Nat.lt_or_ge m n with h' | h'
    · rw [show n = m + 1 from by omega]; exact Rat.le_refl
    · have := ih h'; have := dlt_next (n := m) hD; grind
/-- So many more: at most so many times the first one. -/
theorem mean_up {D n : Nat} (hD : 1 ≤ D) : ∀ k : Nat, meanQ (n + k) D - meanQ n D ≤ (k : Rat) * dlt D n
  | 0 => by
    rw [Nat.add_zero]
    have e : ((0 : Nat) : Rat) = 0 := rfl
    rw [e]; grind
  | k + 1 => by
    have ih := mean_up hD k (n := n)
    have h1 := meanQ_next (n := n + k) hD
    have h2 := dlt_mono (D := D) (n := n) (m := n + k) hD (by omega)
    rw [← Nat.add_assoc, Rat.natCast_add]
    have e : ((1 : Nat) : Rat) = 1 := rfl
    rw [e]; grind
/-- So many less: at least so many times the last one. -/
theorem mean_down {D n : Nat} (hD : 1 ≤ D) : ∀ k : Nat, (k : Rat) * dlt D (n + k - 1) ≤ meanQ (n + k) D - meanQ n D
  | 0 => by
    rw [Nat.add_zero]
    have e : ((0 : Nat) : Rat) = 0 := rfl
    rw [e]; grind
  | k + 1 => by
    have ih := mean_down hD k (n := n)
    have h1 := meanQ_next (n := n + k) hD
    rw [show n + (k + 1) - 1 = n + k from by omega, ← Nat.add_assoc, Rat.natCast_add]
    have e : ((1 : Nat) : Rat) = 1 := rfl
    rw [e]
    have h2 : (k : Rat) * dlt D (n + k) ≤ (k : Rat) * dlt D (n + k - 1) :=
      Rat.mul_le_mul_of_nonneg_left (dlt_mono hD (by omega)) (by exact_mod_cast Nat.zero_le _)
    grind
/-- The sum of the means, series by series. -/
def gainQ (D l : Nat → Nat) (m : Nat) : Rat := sumQ (fun i => meanQ (l i) (D i)) m
theorem best_price {D l a : Nat → Nat} : ∀ m, ∃ p : Rat, (p = 0 ∨ ∃ k, k < m ∧ l k < a k ∧ p = dlt (D k) (l k)) ∧ 0 ≤ p ∧ ∀ k, k < m → l k < a k → dlt (D k) (l k) ≤ p
  | 0 => ⟨0, .inl rfl, Rat.le_refl, fun k hk => by omega⟩
  | m + 1 => by
    obtain ⟨p, hp, h0, hall⟩ := best_price (D := D) (l := l) (a := a) m
    by_cases hm : l m < a m ∧ p < dlt (D m) (l m)
    · refine ⟨dlt (D m) (l m), .inr ⟨m, by omega, hm.1, rfl⟩, dlt_nonneg _ _, fun k hk hl => ?_⟩
      rcases Nat.lt_or_ge k m with h | h
      · have := hall k h hl; have := hm.2; grind
      · rw [show k = m from by omega]; exact Rat.le_refl
    · refine ⟨p, ?_, h0, fun k hk hl => ?_⟩
      · rcases hp with h | ⟨k, h1, h2⟩
        · exact .inl h
        · exact .inr ⟨k, by omega, h2⟩
      · rcases Nat.lt_or_ge k m with h | h
        · exact hall k h hl
        · obtain rfl : k = m := by omega
          have : ¬ p < dlt (D k) (l k) := fun h' => hm ⟨hl, h'⟩
          grind
/-- What no move of one specimen improves is as good as any other way to divide as many. -/
theorem local_best {D l a : Nat → Nat} {m : Nat} (hD : ∀ i, i < m → 1 ≤ D i) (hs : sumTo l m = sumTo a m) (hloc : ∀ i k, i < m → k < m → i ≠ k → 0 < l i → dlt (D k) (l k) ≤ dlt (D i) (l i - 1)) : gainQ D a m ≤ gainQ D l m := by
  obtain ⟨p, hp, h0, hup⟩ := best_price (D := D) (l := l) (a := a) m
  have hdown : ∀ i, i < m → a i < l i → p ≤ dlt (D i) (l i - 1) := by
    intro i hi hl
    rcases hp with h | ⟨k, hk, hkl, h⟩
    · rw [h]; exact dlt_nonneg _ _
    · rw [h]
      exact hloc i k hi hk (fun e => by subst e; omega) (by omega)
  have hterm : ∀ i, i < m → meanQ (a i) (D i) - meanQ (l i) (D i) ≤ p * ((a i : Rat) - (l i : Rat)) := by
    intro i hi
    rcases Nat.lt_trichotomy (l i) (a i) with h | h | h
    · obtain ⟨k, hk⟩ : ∃ k, a i = l i + k := ⟨a i - l i, by omega⟩
      have h1 := mean_up (n := l i) (hD i hi) k
      have h2 := Rat.mul_le_mul_of_nonneg_left (hup i hi h) (show (0 : Rat) ≤ (k : Rat) by exact_mod_cast Nat.zero_le _)
      rw [hk, Rat.natCast_add]
      grind
    · rw [h]; grind
    · obtain ⟨k, hk⟩ : ∃ k, l i = a i + k := ⟨l i - a i, by omega⟩
      have h1 := mean_down (n := a i) (hD i hi) k
      have hd := hdown i hi h
      rw [hk] at hd ⊢
      have h2 := Rat.mul_le_mul_of_nonneg_left hd (show (0 : Rat) ≤ (k : Rat) by exact_mod_cast Nat.zero_le _)
      rw [Rat.natCast_add]
      grind
  have hsum : ∀ j, j ≤ m → gainQ D a j - gainQ D l j ≤ p * ((sumTo a j : Rat) - (sumTo l j : Rat)) := by
    intro j
    induction j with
    | zero =>
      intro _
      show (0 : Rat) - 0 ≤ p * (((0 : Nat) : Rat) - ((0 : Nat) : Rat))
      grind
    | succ j ih =>
      intro hj
      have ih := ih (by omega)
      have ht := hterm j (by omega)
      unfold gainQ at ih ⊢
      rw [sumQ_succ, sumQ_succ, sumTo_succ, sumTo_succ, Rat.natCast_add, Rat.natCast_add]
      grind
  have h1 := hsum m (Nat.le_refl _)
  rw [hs] at h1
  grind

end Go.Proofs.YtnedgbebajhcpaaDoor
namespace Go.Proofs.YtnedgbebajhcpaaDoor
open Num

/-- All lists of k + 1 numbers with the sum m, in lexicographic order. -/
def allocs : Nat → Nat → List (List Nat)
  | 0, m => [[m]]
  | k + 1, m => (List.range (m + 1)).flatMap fun f => (allocs k (m - f)).map (f :: ·)
theorem mem_allocs : ∀ {k m : Nat} {l : List Nat}, l ∈ allocs k m ↔ l.length = k + 1 ∧ l.sum = m
  | 0, m, l => by
    unfold allocs
    rw [List.mem_singleton]
    constructor
    · rintro rfl; exact ⟨rfl, by simp⟩
    · rintro ⟨h1, h2⟩
      match l, h1 with
      | [x], _ => rw [List.sum_cons, List.sum_nil, Nat.add_zero] at h2; rw [h2]
  | k + 1, m, l => by
    unfold allocs
    rw [List.mem_flatMap]
    constructor
    · rintro ⟨f, hf, hl⟩
      rw [List.mem_range] at hf
      rw [List.mem_map] at hl
      obtain ⟨t, ht, rfl⟩ := hl
      obtain ⟨h1, h2⟩ := mem_allocs.1 ht
      rw [List.length_cons, List.sum_cons, h1, h2]
      exact ⟨rfl, by omega⟩
    · rintro ⟨h1, h2⟩
      match l, h1 with
      | x :: t, h1 =>
        rw [List.length_cons] at h1
        rw [List.sum_cons] at h2
        refine ⟨x, List.mem_range.2 (by omega), List.mem_map.2 ⟨t, mem_allocs.2 ⟨by omega, by omega⟩, rfl⟩⟩
theorem allocs_ne {k m : Nat} : allocs k m ≠ [] := by
  intro h
  have : (List.replicate k 0 ++ [m]) ∈ allocs k m := mem_allocs.2 ⟨by simp, by simp⟩
  rw [h] at this
  cases this

/-- One that is better takes the place of the best one so far. -/
def better (g : List Nat → Rat) (s : List Nat × Rat) (l : List Nat) : List Nat × Rat := if s.2 < g l then (l, g l) else s
theorem fold_better {g : List Nat → Rat} : ∀ (L : List (List Nat)) (s : List Nat × Rat), s.2 ≤ (L.foldl (better g) s).2 ∧ (∀ l ∈ L, g l ≤ (L.foldl (better g) s).2) ∧ (L.foldl (better g) s = s ∨ ((L.foldl (better g) s).1 ∈ L ∧ (L.foldl (better g) s).2 = g (L.foldl (better g) s).1))
  | [], s => And.intro Rat.le_refl (And.intro (fun (l : List Nat) (hl : l ∈ []) => absurd hl (List.not_mem_nil)) (Or.inl rfl))
  | x :: L, s => by
    rw [List.foldl_cons]
    obtain ⟨h1, h2, h3⟩ := fold_better L (better g s x)
    by_cases hx : s.2 < g x
    · have e : better g s x = (x, g x) := if_pos hx
      rw [e] at h1 h2 h3 ⊢
      have h1' : g x ≤ (L.foldl (better g) (x, g x)).2 := h1
      refine ⟨by grind, fun l hl => ?_, .inr ?_⟩
      · rcases List.mem_cons.1 hl with rfl | hl
        · exact h1'
        · exact h2 l hl
      · rcases h3 with h | ⟨h, h'⟩
        · rw [h]; exact ⟨List.mem_cons_self, rfl⟩
        · exact ⟨List.mem_cons_of_mem _ h, h'⟩
    · have e : better g s x = s := if_neg hx
      rw [e] at h1 h2 h3 ⊢
      refine ⟨h1, fun l hl => ?_, ?_⟩
      · rcases List.mem_cons.1 hl with rfl | hl
        · grind
        · exact h2 l hl
      · rcases h3 with h | ⟨h, h'⟩
        · exact .inl h
        · exact .inr ⟨List.mem_cons_of_mem _ h, h'⟩
/-- What a call behind some first numbers does to the best one. -/
def visit (g : List Nat → Rat) (k : Nat) (pre : List Nat) (left : Nat) (s : List Nat × Rat) : List Nat × Rat := (allocs k left).foldl (fun s t => better g s (pre ++ t)) s
theorem visit_zero {g : List Nat → Rat} {pre : List Nat} {left : Nat} {s : List Nat × Rat} : visit g 0 pre left s = better g s (pre ++ [left]) := rfl
theorem visit_succ {g : List Nat → Rat} {k left : Nat} {pre : List Nat} {s : List Nat × Rat} : visit g (k + 1) pre left s = (List.range (left + 1)).foldl (fun s f => visit g k (pre ++ [f]) (left - f) s) s := by
  unfold visit
  rw [allocs, List.foldl_flatMap]
  congr 1
  funext s f
  rw [List.foldl_map]
  congr 1
  funext s t
  rw [List.append_assoc, List.singleton_append]
theorem visit_nil {g : List Nat → Rat} {k m : Nat} {s : List Nat × Rat} : visit g k [] m s = (allocs k m).foldl (better g) s := rfl

theorem sumQ_congr' {f g : Nat → Rat} : ∀ {m : Nat}, (∀ i, i < m → f i = g i) → sumQ f m = sumQ g m
  | 0, _ => rfl
  | m + 1, h => by rw [sumQ_succ, sumQ_succ, sumQ_congr' (fun i hi => h i (by omega)), h m (by omega)]
theorem sumQ_put {f : Nat → Rat} {k : Nat} {x : Rat} : ∀ {m : Nat}, k < m → sumQ (fun j => if j = k then x else f j) m = sumQ f m - f k + x
  | 0, h => by omega
  | m + 1, h => by
    rw [sumQ_succ, sumQ_succ]
    by_cases hk : k = m
    · subst hk
      rw [if_pos rfl, sumQ_congr' (g := f) (fun i hi => if_neg (by omega))]
      grind
    · rw [if_neg (Ne.symm hk), sumQ_put (show k < m by omega)]
      grind
/-- A specimen goes from the series i to the series k. -/
def move (l : Nat → Nat) (i k : Nat) : Nat → Nat := fun j => if j = i then l i - 1 else if j = k then l k + 1 else l j
theorem gain_move {D l : Nat → Nat} {m i k : Nat} (hD : ∀ i, i < m → 1 ≤ D i) (hi : i < m) (hk : k < m) (hik : i ≠ k) (h0 : 0 < l i) : gainQ D (move l i k) m = gainQ D l m + dlt (D k) (l k) - dlt (D i) (l i - 1) := by
  unfold gainQ
  have e : sumQ (fun j => meanQ (move l i k j) (D j)) m = sumQ (fun j => if j = i then meanQ (l i - 1) (D i) else (fun j => if j = k then meanQ (l k + 1) (D k) else (fun j => meanQ (l j) (D j)) j) j) m := by
    refine sumQ_congr' fun j hj => ?_
    unfold move
    by_cases h1 : j = i
    · subst h1; rw [if_pos rfl, if_pos rfl]
    · rw [if_neg h1, if_neg h1]
      by_cases h2 : j = k
      · subst h2; rw [if_pos rfl]; exact (if_pos rfl).symm
      · rw [if_neg h2]; exact (if_neg h2).symm
  rw [e, sumQ_put hi, sumQ_put hk]
  rw [if_neg hik]
  have h1 := meanQ_next (n := l k) (hD k hk)
  have h2 := meanQ_next (n := l i - 1) (hD i hi)
  rw [show l i - 1 + 1 = l i from by omega] at h2
  grind

/-- A list, read as a function. -/
def at0 (l : List Nat) : Nat → Nat := fun i => l.getD i 0
theorem sum_at0 (l : List Nat) : ∀ (k : Nat), k ≤ l.length → (l.take k).sum = sumTo (at0 l) k
  | 0, _ => by rw [List.take_zero]; rfl
  | k + 1, h => by
    rw [sumTo_succ, ← sum_at0 l k (by omega), List.take_add_one, List.sum_append]
    unfold at0
    rw [List.getElem?_eq_getElem (by omega), List.getD_eq_getElem?_getD, List.getElem?_eq_getElem (by omega)]
    simp
theorem sum_at {l : List Nat} {k : Nat} (h : l.length = k) : l.sum = sumTo (at0 l) k := by
  rw [← sum_at0 l k (by omega), List.take_of_length_le (by omega)]
/-- The gain of a list of specimens in the series of a plan. -/
def gl (D l : List Nat) : Rat := gainQ (at0 D) (at0 l) D.length
theorem sumQ_nonneg' {f : Nat → Rat} : ∀ {m : Nat}, (∀ i, i < m → 0 ≤ f i) → 0 ≤ sumQ f m
  | 0, _ => Rat.le_refl
  | m + 1, h => by
    rw [sumQ_succ]
    have := sumQ_nonneg' (m := m) (fun i hi => h i (by omega))
    have := h m (by omega)
    grind
theorem meanQ_nonneg {D : Nat} (hD : 1 ≤ D) (n : Nat) : 0 ≤ meanQ n D := by
  have h := mean_down (D := D) (n := 0) hD n
  have h0 : meanQ 0 D = 0 := by
    rw [meanQ_pw hD]
    have : dlt D 0 = 1 := rfl
    rw [this]; grind
  have h1 : (0 : Rat) ≤ (n : Rat) * dlt D (0 + n - 1) := Rat.mul_nonneg (by exact_mod_cast Nat.zero_le _) (dlt_nonneg _ _)
  rw [Nat.zero_add, h0] at h
  rw [Nat.zero_add] at h1
  grind
theorem gl_nonneg {D l : List Nat} (hD : ∀ d ∈ D, 1 ≤ d) : 0 ≤ gl D l := by
  refine sumQ_nonneg' fun i hi => meanQ_nonneg ?_ _
  unfold at0
  rw [List.getD_eq_getElem?_getD, List.getElem?_eq_getElem hi]
  exact hD _ (List.getElem_mem hi)
/-- The first best way. -/
def bestL (D : List Nat) (m : Nat) : List Nat × Rat := (allocs (D.length - 1) m).foldl (better (gl D)) ([], -1)
theorem bestL_first {D : List Nat} {m : Nat} (hD : ∀ d ∈ D, 1 ≤ d) {x : List Nat} {t : List (List Nat)} (h : allocs (D.length - 1) m = x :: t) : bestL D m = t.foldl (better (gl D)) (x, gl D x) := by
  unfold bestL
  rw [h, List.foldl_cons]
  have := gl_nonneg (l := x) hD
  have e : better (gl D) ([], -1) x = (x, gl D x) := if_pos (show (-1 : Rat) < gl D x by grind)
  rw [e]
theorem bestL_mem {D : List Nat} {m : Nat} (hD : ∀ d ∈ D, 1 ≤ d) (hlen : 1 ≤ D.length) : (bestL D m).1.length = D.length ∧ (bestL D m).1.sum = m ∧ (bestL D m).2 = gl D (bestL D m).1 := by
  obtain ⟨h1, h2, h3⟩ := fold_better (g := gl D) (allocs (D.length - 1) m) ([], -1)
  rcases h3 with h3 | ⟨h3, h4⟩
  · exfalso
    cases hx : allocs (D.length - 1) m with
    | nil => exact allocs_ne hx
    | cons x t =>
      have := h2 x (by rw [hx]; exact List.mem_cons_self)
      rw [h3] at this
      have := gl_nonneg (l := x) hD
      grind
  · obtain ⟨h5, h6⟩ := mem_allocs.1 h3
    exact ⟨by unfold bestL; omega, h6, h4⟩
theorem bestL_ge {D l : List Nat} {m : Nat} (hlen : 1 ≤ D.length) (hl : l.length = D.length) (hs : l.sum = m) : gl D l ≤ (bestL D m).2 :=
  (fold_better (g := gl D) (allocs (D.length - 1) m) ([], -1)).2.1 l (mem_allocs.2 ⟨by omega, hs⟩)
theorem at0_ge {D : List Nat} (hD : ∀ d ∈ D, 1 ≤ d) : ∀ i, i < D.length → 1 ≤ at0 D i := by
  intro i hi
  unfold at0
  rw [List.getD_eq_getElem?_getD, List.getElem?_eq_getElem hi]
  exact hD _ (List.getElem_mem hi)
/-- The list from which a specimen of i goes to k. -/
def moved (l : List Nat) (i k : Nat) : List Nat := (l.set i (at0 l i - 1)).set k (at0 l k + 1)
theorem moved_at {l : List Nat} {i k : Nat} (hi : i < l.length) (hk : k < l.length) (hik : i ≠ k) : at0 (moved l i k) = move (at0 l) i k := by
  funext j
  unfold moved at0 move
  rw [List.getD_eq_getElem?_getD, List.getElem?_set, List.getElem?_set]
  by_cases h1 : j = i
  · subst h1
    rw [if_neg (Ne.symm hik), if_pos rfl, if_pos rfl, if_pos hi]; rfl
  · rw [if_neg h1]
    by_cases h2 : j = k
    · subst h2
      rw [if_pos rfl, if_pos rfl, if_pos (by rw [List.length_set]; exact hk)]; rfl
    · rw [if_neg h2, if_neg (Ne.symm h2), if_neg (Ne.symm h1)]
      exact (List.getD_eq_getElem?_getD ..).symm
theorem moved_length {l : List Nat} {i k : Nat} : (moved l i k).length = l.length := by
  unfold moved; rw [List.length_set, List.length_set]
theorem sumTo_put {f : Nat → Nat} {k x : Nat} : ∀ {m : Nat}, k < m → sumTo (fun j => if j = k then x else f j) m + f k = sumTo f m + x
  | 0, h => by omega
  | m + 1, h => by
    rw [sumTo_succ, sumTo_succ]
    by_cases hk : k = m
    · subst hk
      rw [if_pos rfl, sumTo_congr (g := f) (fun i hi => if_neg (by omega))]
      omega
    · have := sumTo_put (f := f) (x := x) (show k < m by omega)
      rw [if_neg (Ne.symm hk)]
      omega
theorem move_sum {l : Nat → Nat} {m i k : Nat} (hi : i < m) (hk : k < m) (hik : i ≠ k) (h0 : 0 < l i) : sumTo (move l i k) m = sumTo l m := by
  have h1 := sumTo_put (f := fun j => if j = k then l k + 1 else l j) (x := l i - 1) hi
  have h2 := sumTo_put (f := l) (x := l k + 1) hk
  have e : sumTo (move l i k) m = sumTo (fun j => if j = i then l i - 1 else (fun j => if j = k then l k + 1 else l j) j) m := rfl
  rw [if_neg hik] at h1
  show sumTo (fun j => if j = i then l i - 1 else if j = k then l k + 1 else l j) m = _
  omega
/-- What a move improves is not the best; what none improves is. -/
theorem bestL_moves {D l : List Nat} {m : Nat} (hD : ∀ d ∈ D, 1 ≤ d) (hlen : 1 ≤ D.length) (hl : l.length = D.length) (hs : l.sum = m) :
    gl D l < (bestL D m).2 ↔ ∃ i k, i < D.length ∧ k < D.length ∧ i ≠ k ∧ 0 < at0 l i ∧ gl D l < gl D (moved l i k) := by
  constructor
  · intro h
    refine Classical.byContradiction fun hno => ?_
    obtain ⟨b1, b2, b3⟩ := bestL_mem (m := m) hD hlen
    have := local_best (D := at0 D) (l := at0 l) (a := at0 (bestL D m).1) (m := D.length) (at0_ge hD) (by rw [← sum_at hl, ← sum_at b1, hs, b2]) (fun i k hi hk hik h0 => by
      have hg := gain_move (D := at0 D) (l := at0 l) (at0_ge hD) hi hk hik h0
      have hx : ¬ gl D l < gl D (moved l i k) := fun hc => hno ⟨i, k, hi, hk, hik, h0, hc⟩
      unfold gl at hx
      rw [moved_at (by omega) (by omega) hik, hg] at hx
      grind)
    rw [b3] at h
    unfold gl at h
    grind
  · rintro ⟨i, k, hi, hk, hik, h0, h⟩
    have hm : (moved l i k).sum = m := by
      rw [sum_at (k := D.length) (by rw [moved_length, hl]), moved_at (by omega) (by omega) hik, move_sum hi hk hik h0, ← sum_at hl, hs]
    have := bestL_ge (D := D) (l := moved l i k) hlen (by rw [moved_length, hl]) hm
    grind

/-- The sum of Good and Toulmin: signs and powers of t. -/
def toulF (f : Nat → Rat) (t : Rat) : Nat → Rat := fun i => (- pw (-t) (i + 1)) * f i
theorem toul_add {f g : Nat → Rat} {t : Rat} {m : Nat} : sumQ (toulF (fun i => f i + g i) t) m = sumQ (toulF f t) m + sumQ (toulF g t) m := by
  induction m with
  | zero => show (0 : Rat) = 0 + 0; grind
  | succ m ih => rw [sumQ_succ, sumQ_succ, sumQ_succ, ih]; unfold toulF; grind
theorem toul_zero {f : Nat → Rat} {m : Nat} : sumQ (toulF f 0) m = 0 := by
  induction m with
  | zero => rfl
  | succ m ih =>
    rw [sumQ_succ, ih]
    unfold toulF
    have e : pw (-(0 : Rat)) (m + 1) = pw (-(0 : Rat)) m * (-0) := rfl
    rw [e]; grind

end Go.Proofs.YtnedgbebajhcpaaDoor
namespace Go.Proofs.YtnedgbebajhcpaaDoor
open Num

theorem bestL_awake : (bestL [1, 5] 3).1 = [1, 2] := by decide +kernel
theorem toul_awake : sumQ (toulF (fun i => ([4, 1] : List Rat).getD i 0) 1) 2 = 3 := by decide +kernel
theorem toul_one {f : Nat → Int} : ∀ m, sumQ (toulF (fun i => (f i : Rat)) 1) m = sumQ (fun i => if i % 2 = 0 then (f i : Rat) else - (f i : Rat)) m
  | 0 => rfl
  | m + 1 => by
    have hp : ∀ k, pw (-(1 : Rat)) k = if k % 2 = 0 then 1 else -1 := by
      intro k
      induction k with
      | zero => rfl
      | succ k ih =>
        have e : pw (-(1 : Rat)) (k + 1) = pw (-(1 : Rat)) k * (-1) := rfl
        rw [e, ih]
        by_cases h : k % 2 = 0
        · rw [if_pos h, if_neg (by omega)]; grind
        · rw [if_neg h, if_pos (by omega)]; grind
    rw [sumQ_succ, sumQ_succ, toul_one m]
    congr 1
    unfold toulF
    rw [hp]
    by_cases h : m % 2 = 0
    · rw [if_pos h, if_neg (by omega)]; grind
    · rw [if_neg h, if_pos (by omega)]; grind

end Go.Proofs.YtnedgbebajhcpaaDoor
