/- Fractions: a sign, a numerator, a denominator, as rational numbers. No program is named here. -/
import Derived.Test.YtkjcbfaimonaoaaDoorNum
set_option linter.unusedVariables false
set_option linter.unusedSimpArgs false
namespace Go.Proofs.YtkjcbfaimonaoaaDoor
open Num

def sgn (b : Bool) (n : Nat) : Int := if b then -(n : Int) else n
/-- The value of a fraction, 0 if its denominator is 0. -/
def frac (b : Bool) (n d : Nat) : Rat := mkRat (sgn b n) d

theorem sgn_natAbs (b : Bool) (n : Nat) : (sgn b n).natAbs = n := by cases b <;> simp [sgn]
theorem sgn_zero (b : Bool) : sgn b 0 = 0 := by cases b <;> rfl
theorem frac_zero {b : Bool} {n d : Nat} (h : n = 0 ∨ d = 0) : frac b n d = 0 := by
  unfold frac
  rcases h with rfl | rfl
  · rw [sgn_zero, Rat.zero_mkRat]
  · rw [Rat.mkRat_zero]
theorem frac_eq (b : Bool) (n d : Nat) : frac b n d = (sgn b n : Rat) / (d : Rat) := Rat.mkRat_eq_div _ _
theorem frac_false (n d : Nat) : frac false n d = (n : Rat) / (d : Rat) := by rw [frac_eq]; simp only [sgn, Bool.false_eq_true, if_false, Rat.intCast_natCast]
theorem frac_true (n d : Nat) : frac true n d = -((n : Rat) / (d : Rat)) := by rw [frac_eq]; simp only [sgn, if_true, Rat.intCast_neg, Rat.intCast_natCast, Rat.div_def, Rat.neg_mul]
theorem frac_pos {n d : Nat} (hn : n ≠ 0) (hd : d ≠ 0) : 0 < (n : Rat) / (d : Rat) := by
  have h1 : (0 : Rat) < n := by exact_mod_cast Nat.pos_of_ne_zero hn
  have h2 : (0 : Rat) < d := by exact_mod_cast Nat.pos_of_ne_zero hd
  rw [Rat.div_def]
  exact Rat.mul_pos h1 (Rat.inv_pos.2 h2)
theorem frac_neg_iff {b : Bool} {n d : Nat} (hn : n ≠ 0) (hd : d ≠ 0) : decide (frac b n d < 0) = b := by
  have := frac_pos hn hd
  cases b
  · rw [frac_false]; simp; grind
  · rw [frac_true]; simp; grind
theorem frac_num {b : Bool} {n d : Nat} (hd : d ≠ 0) : (frac b n d).num.natAbs = n / Nat.gcd n d := by
  unfold frac
  rw [Rat.num_mkRat, if_neg hd, sgn_natAbs, Nat.gcd_comm]
  rw [Int.natAbs_ediv_of_dvd, sgn_natAbs, Int.natAbs_natCast]
  have h1 : ((Nat.gcd n d : Nat) : Int) ∣ (n : Int) := Int.ofNat_dvd.2 (Nat.gcd_dvd_left n d)
  cases b
  · exact h1
  · exact Int.dvd_neg.2 h1
theorem frac_den {b : Bool} {n d : Nat} (hd : d ≠ 0) : (frac b n d).den = d / Nat.gcd n d := by
  unfold frac
  rw [Rat.den_mkRat, if_neg hd, sgn_natAbs, Nat.gcd_comm]
theorem num_neg_iff (q : Rat) : q.num < 0 ↔ q < 0 := by
  rw [← Int.not_le, Rat.num_nonneg]; grind
theorem frac_self (q : Rat) : frac (decide (q < 0)) q.num.natAbs q.den = q := by
  unfold frac
  have : sgn (decide (q < 0)) q.num.natAbs = q.num := by
    unfold sgn
    by_cases h : q < 0
    · have h1 : q.num < 0 := (num_neg_iff q).2 h
      simp [h]; omega
    · have h1 : ¬ q.num < 0 := fun h2 => h ((num_neg_iff q).1 h2)
      simp [h]; omega
  rw [this, Rat.mkRat_self]
theorem frac_mul (b c : Bool) (n m d e : Nat) : frac b n d * frac c m e = frac (b != c) (n * m) (d * e) := by
  unfold frac
  rw [Rat.mkRat_mul_mkRat]
  congr 1
  cases b <;> cases c <;> simp [sgn, Int.neg_mul, Int.mul_neg]
theorem frac_not (b : Bool) (n d : Nat) : frac (!b) n d = -frac b n d := by
  cases b
  · rw [Bool.not_false, frac_true, frac_false]
  · rw [Bool.not_true, frac_true, frac_false]; grind
theorem frac_inv (b : Bool) (n d : Nat) : frac b d n = (frac b n d)⁻¹ := by
  cases b
  · rw [frac_false, frac_false, Rat.div_def, Rat.div_def]
    grind
  · rw [frac_true, frac_true, Rat.div_def, Rat.div_def]
    grind
theorem frac_add {b : Bool} {n m d e : Nat} (hd : d ≠ 0) (he : e ≠ 0) : frac b n d + frac b m e = frac b (n * e + m * d) (d * e) := by
  unfold frac
  rw [Rat.mkRat_add_mkRat _ _ hd he]
  congr 1
  cases b <;> simp [sgn]
  · rw [Int.neg_mul, Int.neg_mul]; omega
theorem frac_sub_ge {b : Bool} {n m d e : Nat} (hd : d ≠ 0) (he : e ≠ 0) (h : m * d ≤ n * e) : frac b n d + frac (!b) m e = frac b (n * e - m * d) (d * e) := by
  unfold frac
  rw [Rat.mkRat_add_mkRat _ _ hd he]
  congr 1
  have h2 : ((n * e - m * d : Nat) : Int) = (n : Int) * e - (m : Int) * d := by rw [Int.natCast_sub h]; simp
  cases b <;> simp only [sgn, Bool.not_false, Bool.not_true, if_true, if_false, Bool.false_eq_true, h2, Int.neg_mul] <;> omega
theorem frac_sub_lt {b : Bool} {n m d e : Nat} (hd : d ≠ 0) (he : e ≠ 0) (h : n * e ≤ m * d) : frac b n d + frac (!b) m e = frac (!b) (m * d - n * e) (d * e) := by
  have h1 := frac_sub_ge (b := !b) he hd h
  rw [Bool.not_not] at h1
  rw [Rat.add_comm, h1, Nat.mul_comm e d]

/-- The sign. -/
def sgnQ (q : Rat) : Int := if q < 0 then -1 else if 0 < q then 1 else 0
/-- How two compare. -/
def cmpQ (a b : Rat) : Int := if a < b then -1 else if b < a then 1 else 0
theorem cmpQ_sub (a b : Rat) : cmpQ a b = sgnQ (a - b) := by
  unfold cmpQ sgnQ
  have h1 : a < b ↔ a - b < 0 := by grind
  have h2 : b < a ↔ 0 < a - b := by grind
  simp [h1, h2]
theorem sgnQ_zero {b : Bool} {n d : Nat} (h : n = 0 ∨ d = 0) : sgnQ (frac b n d) = 0 := by rw [frac_zero h]; rfl
theorem sgnQ_frac {b : Bool} {n d : Nat} (hn : n ≠ 0) (hd : d ≠ 0) : sgnQ (frac b n d) = if b then -1 else 1 := by
  have := frac_pos hn hd
  unfold sgnQ
  cases b
  · rw [frac_false, if_neg (by grind), if_pos this]; rfl
  · rw [frac_true, if_pos (by grind)]; rfl
theorem sgnQ_neg (q : Rat) : sgnQ q < 0 ↔ q < 0 := by unfold sgnQ; split <;> (try split) <;> simp_all
theorem sgnQ_eq_zero (q : Rat) : sgnQ q = 0 ↔ q = 0 := by
  unfold sgnQ
  split
  · constructor
    · intro h; omega
    · intro h; grind
  · split
    · constructor
      · intro h; omega
      · intro h; grind
    · constructor
      · intro h; grind
      · intro h; rfl
theorem sgnQ_pos (q : Rat) : 0 < sgnQ q ↔ 0 < q := by
  unfold sgnQ
  split
  · constructor
    · intro h; omega
    · intro h; grind
  · split <;> simp_all
theorem cmpQ_neg (a b : Rat) : cmpQ a b < 0 ↔ a < b := by rw [cmpQ_sub, sgnQ_neg]; grind
theorem cmpQ_pos (a b : Rat) : 0 < cmpQ a b ↔ b < a := by rw [cmpQ_sub, sgnQ_pos]; grind
theorem cmpQ_zero (a b : Rat) : cmpQ a b = 0 ↔ a = b := by rw [cmpQ_sub, sgnQ_eq_zero]; grind
theorem frac_lt {n m d e : Nat} (hd : d ≠ 0) (he : e ≠ 0) : (n : Rat) / (d : Rat) < (m : Rat) / (e : Rat) ↔ n * e < m * d := by
  have h1 : (0 : Rat) < d := by exact_mod_cast Nat.pos_of_ne_zero hd
  have h2 : (0 : Rat) < e := by exact_mod_cast Nat.pos_of_ne_zero he
  rw [Rat.div_lt_iff h1, show (m : Rat) / (e : Rat) * (d : Rat) = ((m : Rat) * (d : Rat)) / (e : Rat) from by rw [Rat.div_def, Rat.div_def]; grind, Rat.lt_div_iff h2]
  exact_mod_cast Iff.rfl

/-- A rational number whose numerator and denominator have at most L limbs. -/
def FB (q : Rat) (L : Nat) : Prop := (limbsOf q.num.natAbs).length ≤ L ∧ (limbsOf q.den).length ≤ L
theorem FB.mono {q : Rat} {L M : Nat} (h : FB q L) (hl : L ≤ M) : FB q M := ⟨Nat.le_trans h.1 hl, Nat.le_trans h.2 hl⟩
theorem frac_fb {b : Bool} {n d L : Nat} (hn : (limbsOf n).length ≤ L) (hd : (limbsOf d).length ≤ L) (hL : 1 ≤ L) : FB (frac b n d) L := by
  by_cases h : d = 0
  · rw [frac_zero (.inr h)]
    refine ⟨?_, ?_⟩
    · show (limbsOf 0).length ≤ L; rw [limbsOf_zero]; exact Nat.zero_le _
    · show (limbsOf 1).length ≤ L; exact Nat.le_trans (limbsOf_length_le (k := 1) (by decide)) hL
  · refine ⟨?_, ?_⟩
    · rw [frac_num h]; exact Nat.le_trans (limbsOf_length_mono (Nat.div_le_self _ _)) hn
    · rw [frac_den h]; exact Nat.le_trans (limbsOf_length_mono (Nat.div_le_self _ _)) hd
theorem self_fb (q : Rat) {L : Nat} (h : FB q L) (hL : 1 ≤ L) : (limbsOf q.num.natAbs).length ≤ L ∧ (limbsOf q.den).length ≤ L := h
theorem FB.mul {p q : Rat} {L M : Nat} (hp : FB p L) (hq : FB q M) (hL : 1 ≤ L) : FB (p * q) (L + M) := by
  rw [← frac_self p, ← frac_self q, frac_mul]
  refine frac_fb ?_ ?_ (by omega)
  · exact Nat.le_trans (limbsOf_length_mul _ _) (Nat.add_le_add hp.1 hq.1)
  · exact Nat.le_trans (limbsOf_length_mul _ _) (Nat.add_le_add hp.2 hq.2)
theorem FB.neg {p : Rat} {L : Nat} (hp : FB p L) : FB (-p) L := by
  obtain ⟨h1, h2⟩ := hp
  exact ⟨by rw [Rat.neg_num, Int.natAbs_neg]; exact h1, by rw [Rat.neg_den]; exact h2⟩
theorem len_add {a b k : Nat} (ha : (limbsOf a).length ≤ k) (hb : (limbsOf b).length ≤ k) : (limbsOf (a + b)).length ≤ k + 1 := by
  refine limbsOf_length_le ?_
  have h1 := limbsOf_lt a
  have h2 := limbsOf_lt b
  have h3 : 1000000000 ^ (limbsOf a).length ≤ 1000000000 ^ k := Nat.pow_le_pow_right (by omega) ha
  have h4 : 1000000000 ^ (limbsOf b).length ≤ 1000000000 ^ k := Nat.pow_le_pow_right (by omega) hb
  rw [Nat.pow_succ]
  omega
theorem FB.add {p q : Rat} {L M : Nat} (hp : FB p L) (hq : FB q M) (hL : 1 ≤ L) : FB (p + q) (L + M + 1) := by
  have hpd : p.den ≠ 0 := p.den_nz
  have hqd : q.den ≠ 0 := q.den_nz
  have e1 : (limbsOf (p.num.natAbs * q.den)).length ≤ L + M := Nat.le_trans (limbsOf_length_mul _ _) (Nat.add_le_add hp.1 hq.2)
  have e2 : (limbsOf (q.num.natAbs * p.den)).length ≤ L + M := by have := Nat.le_trans (limbsOf_length_mul _ _) (Nat.add_le_add hq.1 hp.2); omega
  have e3 : (limbsOf (p.den * q.den)).length ≤ L + M + 1 := by have := Nat.le_trans (limbsOf_length_mul _ _) (Nat.add_le_add hp.2 hq.2); omega
  rw [← frac_self p, ← frac_self q]
  generalize decide (p < 0) = b
  generalize decide (q < 0) = c
  by_cases hbc : c = b
  · subst hbc
    rw [frac_add hpd hqd]
    exact frac_fb (len_add e1 e2) e3 (by omega)
  · have : c = !b := by cases b <;> cases c <;> simp_all
    subst this
    rcases Nat.le_total (q.num.natAbs * p.den) (p.num.natAbs * q.den) with h | h
    · rw [frac_sub_ge hpd hqd h]
      exact frac_fb (by have := limbsOf_length_mono (Nat.sub_le (p.num.natAbs * q.den) (q.num.natAbs * p.den)); omega) e3 (by omega)
    · rw [frac_sub_lt hpd hqd h]
      exact frac_fb (by have := limbsOf_length_mono (Nat.sub_le (q.num.natAbs * p.den) (p.num.natAbs * q.den)); omega) e3 (by omega)
theorem FB.sub {p q : Rat} {L M : Nat} (hp : FB p L) (hq : FB q M) (hL : 1 ≤ L) : FB (p - q) (L + M + 1) := by
  rw [Rat.sub_eq_add_neg]; exact hp.add hq.neg hL
theorem FB.inv {p : Rat} {L : Nat} (hp : FB p L) (hL : 1 ≤ L) : FB (p⁻¹) L := by
  rw [← frac_self p, ← frac_inv]; exact frac_fb hp.2 hp.1 hL
theorem FB.div {p q : Rat} {L M : Nat} (hp : FB p L) (hq : FB q M) (hL : 1 ≤ L) (hM : 1 ≤ M) : FB (p / q) (L + M) := by
  rw [Rat.div_def]; exact hp.mul (hq.inv hM) hL

end Go.Proofs.YtkjcbfaimonaoaaDoor
