/- Samples: what the estimates are at least. No program is walked here. -/
import Derived.Test.YtkjcbfaimonaoaaDoorEstP
import Derived.Test.YtkjcbfaimonaoaaDoorEstS
import Derived.Test.YtkjcbfaimonaoaaDoorEstRefB
set_option linter.unusedVariables false
set_option linter.unusedSimpArgs false
namespace Go.Proofs.YtkjcbfaimonaoaaDoor
open Go.RowKit Num

theorem ones_le : ∀ {zs : List Int}, (∀ z ∈ zs, 1 ≤ z) → 2 * (zs.length : Int) ≤ zs.sum + (zs.count 1 : Int) ∧ (zs.count 1 = zs.length → zs.sum = zs.length)
  | [], _ => by simp
  | a :: l, h => by
    have ih := ones_le (zs := l) fun z hz => h z (by simp [hz])
    have ha := h a (by simp)
    have hc : l.count 1 ≤ l.length := List.count_le_length
    rw [List.count_cons, List.sum_cons, List.length_cons]
    by_cases e : a = 1
    · subst e
      simp only [beq_self_eq_true, if_true]
      refine ⟨by omega, fun h1 => ?_⟩
      have := ih.2 (by omega)
      omega
    · have e' : (a == 1) = false := by simpa using e
      simp only [e', Bool.false_eq_true, if_false, Nat.add_zero]
      exact ⟨by omega, fun h1 => by omega⟩
theorem le_quot {l n d : Int} (hd : 0 < d) (h : l * d ≤ n) : (l : Rat) / ((1 : Int) : Rat) ≤ (n : Rat) / (d : Rat) := by
  have hd' : (0 : Rat) < (d : Rat) := by exact_mod_cast hd
  have h' : (l : Rat) * (d : Rat) ≤ (n : Rat) := by rw [← Rat.intCast_mul]; exact_mod_cast h
  have e := Rat.div_mul_cancel (a := (n : Rat)) (b := (d : Rat)) (by grind)
  rw [show (l : Rat) / ((1 : Int) : Rat) = (l : Rat) from by simp only [Rat.intCast_one, Rat.div_def]; grind]
  generalize (n : Rat) / (d : Rat) = x at *
  refine Rat.not_lt.1 fun hlt => ?_
  have := Rat.mul_lt_mul_of_pos_right hlt hd'
  grind
theorem cmpQ_ge {p q : Rat} (h : q ≤ p) : 0 ≤ cmpQ p q := by
  have : ¬ cmpQ p q < 0 := fun h1 => absurd ((cmpQ_neg p q).1 h1) (Rat.not_lt.2 h)
  omega
theorem quot_pos {n d : Int} (hn : 0 < n) (hd : 0 < d) : (0 : Rat) < (n : Rat) / (d : Rat) := by
  have hd' : (0 : Rat) < (d : Rat) := by exact_mod_cast hd
  have hn' : (0 : Rat) < (n : Rat) := by exact_mod_cast hn
  have e := Rat.div_mul_cancel (a := (n : Rat)) (b := (d : Rat)) (by grind)
  generalize (n : Rat) / (d : Rat) = x at *
  refine Rat.not_le.1 fun hle => ?_
  have := Rat.mul_le_mul_of_nonneg_right hle (Rat.le_of_lt hd')
  grind
theorem quot_one {s : Int} (hs : s ≠ 0) : ((s : Rat) / (s : Rat)) = ((1 : Int) : Rat) / ((1 : Int) : Rat) := by
  have hs' : (s : Rat) ≠ 0 := by exact_mod_cast hs
  simp only [Rat.intCast_one, Rat.div_def]
  grind
theorem quot_lt_one {a s : Int} (hs : 0 < s) (h : a < s) : (a : Rat) / (s : Rat) < ((1 : Int) : Rat) / ((1 : Int) : Rat) := by
  have hd' : (0 : Rat) < (s : Rat) := by exact_mod_cast hs
  have hn' : (a : Rat) < (s : Rat) := by exact_mod_cast h
  have e := Rat.div_mul_cancel (a := (a : Rat)) (b := (s : Rat)) (by grind)
  rw [show ((1 : Int) : Rat) / ((1 : Int) : Rat) = (1 : Rat) from by simp only [Rat.intCast_one, Rat.div_def]; grind]
  generalize (a : Rat) / (s : Rat) = x at *
  refine Rat.not_le.1 fun hle => ?_
  have := Rat.mul_le_mul_of_nonneg_right hle (Rat.le_of_lt hd')
  grind

/-- What the estimates of a sample give: their values, how great they are, and that they are at least the dies that were seen. -/
theorem Samp.facts {zs : List Int} (h : Samp zs) : (1 ≤ zs.sum ∧ zs.sum ≤ 64) ∧ (1 ≤ zs.length ∧ zs.length ≤ 64) ∧ zs.count 1 ≤ zs.length ∧ (zs.length : Int) ≤ zs.sum ∧ (zs.count 1 = zs.length → zs.sum = zs.length) ∧ (zs.count 1 < zs.length → (zs.count 1 : Int) < zs.sum) := by
  have hs := sumUp_le (Nat.le_refl _) h.2.1
  rw [sumUp_all] at hs
  have hl := h.1
  have h1 := ones_le (zs := zs) fun z hz => (h.mem hz).1
  have hc : zs.count 1 ≤ zs.length := List.count_le_length
  have h2 := h.2.2
  exact ⟨⟨by omega, h2⟩, hl, hc, by omega, h1.2, fun _ => by omega⟩
theorem jack_least {zs : List Int} (h : Samp zs) : ∃ q : Rat, (∀ x w, IntsV w x zs → Calls Tryd.prog 30 #[x] w (GivesFE w q)) ∧ FB q 3 ∧ ((zs.length : Int) : Rat) / ((1 : Int) : Rat) ≤ q ∧ (zs.count 1 = 0 → q = ((zs.length : Int) : Rat) / ((1 : Int) : Rat)) := by
  obtain ⟨hs, hl, hc, hls, _, _⟩ := h.facts
  have p1 : 0 ≤ (zs.length : Int) * zs.sum := Int.mul_nonneg (by omega) (by omega)
  have p2 : (zs.length : Int) * zs.sum ≤ 64 * 64 := Int.mul_le_mul (by omega) (by omega) (by omega) (by omega)
  have p3 : 0 ≤ (seen zs 1 : Int) * (zs.sum - 1) := Int.mul_nonneg (by omega) (by omega)
  have p4 : (seen zs 1 : Int) * (zs.sum - 1) ≤ 64 * 64 := Int.mul_le_mul (by show (zs.count 1 : Int) ≤ 64; omega) (by omega) (by omega) (by omega)
  refine ⟨_, fun x w hx => ejack_ok hx h, fb_i64 (n := (zs.length : Int) * zs.sum + (seen zs 1 : Int) * (zs.sum - 1)) (d := zs.sum) (by omega) (by omega), le_quot (by omega) (by omega), fun h0 => ?_⟩
  have h0' : seen zs 1 = 0 := h0
  rw [h0', jack_val (by omega)]
  simp only [Int.natCast_zero, Int.zero_mul, Rat.intCast_zero, Rat.div_def, Rat.zero_mul, Rat.add_zero]
theorem cart_pos {zs : List Int} (h : Samp zs) : ∃ q : Rat, (∀ x w, IntsV w x zs → Calls Tryd.prog 32 #[x] w (GivesFE w q)) ∧ FB q 3 ∧ 0 < q := by
  obtain ⟨hs, hl, hc, hls, _, _⟩ := h.facts
  have p1 : 0 < zs.sum * (zs.length : Int) := Int.mul_pos (by omega) (by omega)
  have p2 : zs.sum * (zs.length : Int) ≤ 64 * 64 := Int.mul_le_mul (by omega) (by omega) (by omega) (by omega)
  have e : carN zs.sum zs.length = 1000 * (zs.sum * (zs.length : Int)) := by unfold carN; rw [Int.mul_assoc]
  have hd : 0 < carD zs.sum zs.length ∧ carD zs.sum zs.length ≤ 1000000 := by unfold carD; split <;> (try split) <;> omega
  exact ⟨_, fun x w hx => ecart_ok hx h, fb_i64 (n := carN zs.sum zs.length) (d := carD zs.sum zs.length) (by omega) (by omega), quot_pos (by omega) hd.1⟩
theorem add_ge {l m : Rat} (h : 0 ≤ m) : l ≤ l + m := by grind
theorem quot_nonneg {n d : Int} (hn : 0 ≤ n) (hd : 0 < d) : (0 : Rat) ≤ (n : Rat) / (d : Rat) := by
  rcases Int.lt_or_eq_of_le hn with h | h
  · exact Rat.le_of_lt (quot_pos h hd)
  · rw [← h]; simp only [Rat.intCast_zero, Rat.div_def, Rat.zero_mul]; exact Rat.le_refl
theorem chao_least {zs : List Int} (h : Samp zs) : ∃ q : Rat, (∀ x w, IntsV w x zs → Calls Tryd.prog 28 #[x] w (GivesFE w q)) ∧ FB q 7 ∧ ((zs.length : Int) : Rat) / ((1 : Int) : Rat) ≤ q ∧ (zs.count 1 = 0 → q = ((zs.length : Int) : Rat) / ((1 : Int) : Rat)) := by
  obtain ⟨hs, hl, hc, hls, _, _⟩ := h.facts
  have hc2 : zs.count 2 ≤ 64 := Nat.le_trans List.count_le_length hl.2
  have hsn : seen zs 1 ≤ 64 := by show zs.count 1 ≤ 64; omega
  have p1 : 0 ≤ (seen zs 1 : Int) * (seen zs 1 : Int) := Int.mul_nonneg (by omega) (by omega)
  have p2 : (seen zs 1 : Int) * (seen zs 1 : Int) ≤ 64 * 64 := Int.mul_le_mul (by omega) (by omega) (by omega) (by omega)
  have p3 : (seen zs 1 : Int) * ((seen zs 1 : Int) - 1) = (seen zs 1 : Int) * (seen zs 1 : Int) - (seen zs 1 : Int) := by rw [Int.mul_sub, Int.mul_one]
  have p4 : 0 ≤ (seen zs 1 : Int) * ((seen zs 1 : Int) - 1) := by
    rcases Nat.eq_zero_or_pos (seen zs 1) with e | e
    · rw [e]; decide
    · exact Int.mul_nonneg (by omega) (by omega)
  have hfl := fb_i64 (n := (zs.length : Int)) (d := 1) (by omega) (by omega)
  by_cases h2 : zs.count 2 = 0
  · refine ⟨_, fun x w hx => echao_a hx h h2, FB.add hfl (fb_i64 (n := (seen zs 1 : Int) * ((seen zs 1 : Int) - 1)) (d := 2) (by omega) (by omega)) (by omega), add_ge (quot_nonneg p4 (by omega)), fun h0 => ?_⟩
    have h0' : seen zs 1 = 0 := h0
    rw [h0']
    unfold chaoA
    simp only [Int.natCast_zero, Int.zero_mul, Rat.intCast_zero, Rat.div_def, Rat.zero_mul, Rat.add_zero]
  · refine ⟨_, fun x w hx => echao_b hx h (Nat.pos_of_ne_zero h2), FB.add hfl (fb_i64 (n := (seen zs 1 : Int) * (seen zs 1 : Int)) (d := 2 * (zs.count 2 : Int)) (by omega) (by omega)) (by omega), add_ge (quot_nonneg p1 (by omega)), fun h0 => ?_⟩
    have h0' : seen zs 1 = 0 := h0
    rw [h0']
    unfold chaoB
    simp only [Int.natCast_zero, Int.zero_mul, Rat.intCast_zero, Rat.div_def, Rat.zero_mul, Rat.add_zero]

end Go.Proofs.YtkjcbfaimonaoaaDoor
