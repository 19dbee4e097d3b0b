/- Numbers of combinatorics, on Nat. No program is named here. -/
import Derived.Test.YthikgbgmnlmmlaaDoorNum
namespace Go.Proofs.YthikgbgmnlmmlaaDoor
open Num

def chs : Nat → Nat → Nat
  | _, 0 => 1
  | 0, _ + 1 => 0
  | n + 1, k + 1 => chs n k + chs n (k + 1)

theorem chs_zero (n : Nat) : chs n 0 = 1 := by cases n <;> rfl
theorem chs_zero_succ (k : Nat) : chs 0 (k + 1) = 0 := rfl
theorem chs_succ (n k : Nat) : chs (n + 1) (k + 1) = chs n k + chs n (k + 1) := rfl
theorem chs_gt : ∀ (n k : Nat), n < k → chs n k = 0 := by
  intro n
  induction n with
  | zero => intro k h; cases k with
    | zero => omega
    | succ k => rfl
  | succ n ih => intro k h; cases k with
    | zero => omega
    | succ k => rw [chs_succ, ih k (by omega), ih (k + 1) (by omega)]
theorem chs_self (n : Nat) : chs n n = 1 := by
  induction n with
  | zero => rfl
  | succ n ih => rw [chs_succ, ih, chs_gt n (n + 1) (by omega)]
theorem chs_step : ∀ (n k : Nat), chs n (k + 1) * (k + 1) = chs n k * (n - k) := by
  intro n
  induction n with
  | zero => intro k; rw [chs_zero_succ]; simp
  | succ n ih =>
    intro k
    cases k with
    | zero =>
      have := ih 0
      rw [chs_zero] at this
      rw [chs_succ, chs_zero, chs_zero]
      omega
    | succ k =>
      rcases Nat.lt_or_ge n k with h | h
      · rw [chs_gt (n + 1) (k + 1 + 1) (by omega), chs_gt (n + 1) (k + 1) (by omega)]; simp
      · have h1 := ih k
        have h2 := ih (k + 1)
        rw [chs_succ, chs_succ n k]
        generalize chs n (k + 1) = c at *
        generalize chs n (k + 1 + 1) = d at *
        generalize chs n k = b at *
        obtain ⟨m, rfl⟩ : ∃ m, n = k + m := ⟨n - k, by omega⟩
        rw [show k + m - k = m from by omega] at h1
        rw [show k + m + 1 - (k + 1) = m from by omega]
        rw [Nat.add_mul, h2, Nat.add_mul, ← h1, ← Nat.mul_add, ← Nat.mul_add]
        rcases Nat.eq_zero_or_pos m with hm | hm
        · subst hm
          have : c = 0 := by
            rw [Nat.mul_zero] at h1
            exact (Nat.mul_eq_zero.1 h1).resolve_right (by omega)
          rw [this]; simp
        · congr 1; omega
theorem chs_symm : ∀ (n k : Nat), k ≤ n → chs n k = chs n (n - k) := by
  intro n
  induction n with
  | zero => intro k h; rw [show k = 0 from by omega]
  | succ n ih =>
    intro k h
    cases k with
    | zero => rw [chs_zero, Nat.sub_zero, chs_self]
    | succ k =>
      rcases Nat.lt_or_ge k n with h' | h'
      · obtain ⟨m, hm⟩ : ∃ m, n - k = m + 1 := ⟨n - k - 1, by omega⟩
        rw [show n + 1 - (k + 1) = m + 1 from by omega, chs_succ, chs_succ, ih k (by omega), ih (k + 1) (by omega), hm, show n - (k + 1) = m from by omega, Nat.add_comm]
      · rw [show n = k from by omega, chs_self, show k + 1 - (k + 1) = 0 from by omega, chs_zero]
theorem chs_pos : ∀ (n k : Nat), k ≤ n → 0 < chs n k := by
  intro n
  induction n with
  | zero => intro k h; rw [show k = 0 from by omega]; decide
  | succ n ih =>
    intro k h
    cases k with
    | zero => rw [chs_zero]; omega
    | succ k => rw [chs_succ]; have := ih k (by omega); omega
theorem chs_le : ∀ (n k : Nat), chs n k ≤ 2 ^ n := by
  intro n
  induction n with
  | zero => intro k; cases k with
    | zero => decide
    | succ k => rw [chs_zero_succ]; omega
  | succ n ih =>
    intro k
    cases k with
    | zero => rw [chs_zero]; exact Nat.one_le_two_pow
    | succ k => rw [chs_succ, Nat.pow_succ]; have := ih k; have := ih (k + 1); omega

def fall (n : Nat) : Nat → Nat
  | 0 => 1
  | k + 1 => fall n k * (n - k)
theorem fall_succ (n k : Nat) : fall n (k + 1) = fall n k * (n - k) := rfl
theorem fall_gt (n : Nat) : ∀ k, n < k → fall n k = 0 := by
  intro k
  induction k with
  | zero => intro h; omega
  | succ k ih =>
    intro h
    rw [fall_succ]
    rcases Nat.lt_or_ge n k with h' | h'
    · rw [ih h', Nat.zero_mul]
    · rw [show n - k = 0 from by omega, Nat.mul_zero]
def fact : Nat → Nat
  | 0 => 1
  | k + 1 => fact k * (k + 1)
theorem fact_succ (k : Nat) : fact (k + 1) = fact k * (k + 1) := rfl
theorem fall_chs (n : Nat) : ∀ k, fall n k = chs n k * fact k := by
  intro k
  induction k with
  | zero => rw [chs_zero]; rfl
  | succ k ih => rw [fall_succ, ih, fact_succ, ← Nat.mul_assoc, Nat.mul_right_comm, ← chs_step, Nat.mul_right_comm]
theorem fall_self (n : Nat) : fall n n = fact n := by rw [fall_chs, chs_self, Nat.one_mul]

def stir : Nat → Nat → Nat
  | 0, 0 => 1
  | 0, _ + 1 => 0
  | _ + 1, 0 => 0
  | n + 1, k + 1 => stir n k + (k + 1) * stir n (k + 1)
theorem stir_succ (n k : Nat) : stir (n + 1) (k + 1) = stir n k + (k + 1) * stir n (k + 1) := rfl
theorem stir_succ_zero (n : Nat) : stir (n + 1) 0 = 0 := rfl
theorem stir_gt : ∀ (n k : Nat), n < k → stir n k = 0 := by
  intro n
  induction n with
  | zero => intro k h; cases k with
    | zero => omega
    | succ k => rfl
  | succ n ih => intro k h; cases k with
    | zero => omega
    | succ k => rw [stir_succ, ih k (by omega), ih (k + 1) (by omega), Nat.mul_zero]
theorem stir_le : ∀ (n k : Nat), stir n k ≤ (k + 1) ^ n := by
  intro n
  induction n with
  | zero => intro k; cases k with
    | zero => decide
    | succ k => exact Nat.zero_le _
  | succ n ih =>
    intro k
    cases k with
    | zero => rw [stir_succ_zero]; exact Nat.zero_le _
    | succ k =>
      rw [stir_succ, Nat.pow_succ]
      have h1 := ih k
      have h2 := Nat.mul_le_mul_left (k + 1) (ih (k + 1))
      have h3 : (k + 1) ^ n ≤ (k + 1 + 1) ^ n := Nat.pow_le_pow_left (by omega) n
      generalize (k + 1 + 1) ^ n = P at *
      rw [Nat.mul_comm P, Nat.add_mul (k + 1) 1 P]
      omega

def sumTo (f : Nat → Nat) : Nat → Nat
  | 0 => 0
  | n + 1 => sumTo f n + f n
theorem sumTo_succ (f : Nat → Nat) (n : Nat) : sumTo f (n + 1) = sumTo f n + f n := rfl
theorem sumTo_congr {f g : Nat → Nat} {n : Nat} (h : ∀ k, k < n → f k = g k) : sumTo f n = sumTo g n := by
  induction n with
  | zero => rfl
  | succ n ih => rw [sumTo_succ, sumTo_succ, ih fun k hk => h k (by omega), h n (by omega)]
theorem sumTo_add (f g : Nat → Nat) (n : Nat) : sumTo (fun k => f k + g k) n = sumTo f n + sumTo g n := by
  induction n with
  | zero => rfl
  | succ n ih => rw [sumTo_succ, sumTo_succ, sumTo_succ, ih]; omega
theorem sumTo_mul (c : Nat) (f : Nat → Nat) (n : Nat) : sumTo (fun k => c * f k) n = c * sumTo f n := by
  induction n with
  | zero => rfl
  | succ n ih => rw [sumTo_succ, sumTo_succ, ih, Nat.mul_add]
theorem sumTo_first (f : Nat → Nat) (n : Nat) : sumTo f (n + 1) = f 0 + sumTo (fun k => f (k + 1)) n := by
  induction n with
  | zero => simp [sumTo]
  | succ n ih => rw [sumTo_succ, ih, sumTo_succ]; omega

theorem fall_next (x k : Nat) : fall x (k + 1) + k * fall x k = x * fall x k := by
  rw [fall_succ]
  rcases Nat.lt_or_ge x k with h | h
  · rw [fall_gt x k h]; simp
  · rw [Nat.mul_comm, ← Nat.add_mul]; congr 1; omega
theorem stir_powers (x n : Nat) : sumTo (fun k => stir n k * fall x k) (n + 1) = x ^ n := by
  induction n with
  | zero => simp [sumTo, stir, fall]
  | succ n ih =>
    rw [sumTo_first, stir_succ_zero, Nat.zero_mul, Nat.zero_add, Nat.pow_succ, Nat.mul_comm, ← ih, ← sumTo_mul]
    have h1 : sumTo (fun k => stir (n + 1) (k + 1) * fall x (k + 1)) (n + 1) = sumTo (fun k => stir n k * fall x (k + 1)) (n + 1) + sumTo (fun k => (k + 1) * stir n (k + 1) * fall x (k + 1)) (n + 1) := by
      rw [← sumTo_add]
      exact sumTo_congr fun k _ => by rw [stir_succ, Nat.add_mul]
    have h2 : sumTo (fun k => (k + 1) * stir n (k + 1) * fall x (k + 1)) (n + 1) = sumTo (fun k => k * stir n k * fall x k) (n + 1) := by
      have e1 := sumTo_first (fun k => k * stir n k * fall x k) (n + 1)
      have e2 := sumTo_succ (fun k => k * stir n k * fall x k) (n + 1)
      simp only [Nat.zero_mul, Nat.zero_add] at e1
      rw [stir_gt n (n + 1) (by omega), Nat.mul_zero, Nat.zero_mul, Nat.add_zero] at e2
      rw [e2] at e1
      exact e1.symm
    rw [h1, h2, ← sumTo_add]
    refine sumTo_congr fun k _ => ?_
    have := fall_next x k
    rw [show k * stir n k * fall x k = stir n k * (k * fall x k) from by rw [Nat.mul_comm k, Nat.mul_assoc], ← Nat.mul_add, this, Nat.mul_left_comm]

/-- How long the limbs of a number are. -/
theorem len_of_le_pow {x b n : Nat} (h : x ≤ b ^ n) (hb : b < 1000000000) : (limbsOf x).length ≤ n + 1 := by
  refine limbsOf_length_le (Nat.lt_of_le_of_lt h ?_)
  rw [Nat.pow_succ]
  have h1 : b ^ n ≤ 1000000000 ^ n := Nat.pow_le_pow_left (by omega) n
  have h2 : 0 < 1000000000 ^ n := Nat.pow_pos (by omega)
  omega
theorem len_small {x : Nat} (h : x < 1000000000) : (limbsOf x).length ≤ 1 := limbsOf_length_le (by simpa using h)
theorem chs_len (n k : Nat) : (limbsOf (chs n k)).length ≤ n + 1 := len_of_le_pow (chs_le n k) (by omega)
theorem stir_len {n k : Nat} (hk : k < 999999999) : (limbsOf (stir n k)).length ≤ n + 1 := len_of_le_pow (stir_le n k) (by omega)
theorem fall_len {n : Nat} (hn : n < 1000000000) : ∀ k, (limbsOf (fall n k)).length ≤ k + 1 := by
  intro k
  induction k with
  | zero => exact len_small (by show 1 < _; omega)
  | succ k ih =>
    rw [fall_succ]
    have := limbsOf_length_mul (fall n k) (n - k)
    have := len_small (x := n - k) (by omega)
    omega
theorem fact_len : ∀ k, k < 1000000000 → (limbsOf (fact k)).length ≤ k + 1 := by
  intro k hk
  rw [← fall_self]
  exact fall_len hk k

end Go.Proofs.YthikgbgmnlmmlaaDoor
