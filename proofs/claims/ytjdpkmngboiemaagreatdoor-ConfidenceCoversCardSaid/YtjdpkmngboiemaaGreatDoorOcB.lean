/- occupancy: power, missed, Mean. -/
import Derived.Test.YtjdpkmngboiemaaGreatDoorOcA
import Derived.Test.YtjdpkmngboiemaaGreatDoorFracN
import Derived.Test.YtjdpkmngboiemaaGreatDoorFracT
set_option linter.unusedVariables false
set_option linter.unusedSimpArgs false
set_option maxRecDepth 100000
namespace Go.Proofs.YtjdpkmngboiemaaGreatDoor
open Go.RowKit Num

/-- The power of a fraction, its sign left out. -/
def powQ (q : Rat) (n : Nat) : Rat := frac false (q.num.natAbs ^ n) (q.den ^ n)
theorem frac_cancel {x y k : Nat} (hk : k ≠ 0) : frac false (x * k) (y * k) = frac false x y := by
  rw [frac_false, frac_false, Rat.natCast_mul, Rat.natCast_mul]
  have hk' : (k : Rat) ≠ 0 := by exact_mod_cast hk
  by_cases hy : y = 0
  · subst hy
    simp [Rat.div_def]
  · have hy' : (y : Rat) ≠ 0 := by exact_mod_cast hy
    simp only [Rat.div_def]
    grind
theorem powQ_frac {a b n : Nat} (hb : b ≠ 0) : powQ (frac false a b) n = frac false (a ^ n) (b ^ n) := by
  unfold powQ
  have hg : 0 < Nat.gcd a b := Nat.gcd_pos_of_pos_right _ (Nat.pos_of_ne_zero hb)
  rw [frac_num hb, frac_den hb]
  have e1 : a ^ n = (a / Nat.gcd a b) ^ n * Nat.gcd a b ^ n := by rw [← Nat.mul_pow, Nat.div_mul_cancel (Nat.gcd_dvd_left a b)]
  have e2 : b ^ n = (b / Nat.gcd a b) ^ n * Nat.gcd a b ^ n := by rw [← Nat.mul_pow, Nat.div_mul_cancel (Nat.gcd_dvd_right a b)]
  rw [e1, e2, frac_cancel (by have := Nat.pow_pos (n := n) hg; omega)]
theorem pow_limbs {a n : Nat} (ha : a < 1000000000) (hn : n ≤ 30) : (limbsOf (a ^ n)).length ≤ 31 := Nat.le_trans (len_of_le_pow (Nat.le_refl _) ha) (by omega)
theorem powQ_fb {q : Rat} {n : Nat} (h1 : q.num.natAbs < 1000000000) (h2 : q.den < 1000000000) (hn : n ≤ 30) : FB (powQ q n) 31 := frac_fb (pow_limbs h1 hn) (pow_limbs h2 hn) (by decide)

/-- 1, as the program makes it. -/
abbrev one1 : Rat := ((1 : Int) : Rat) / ((1 : Int) : Rat)
theorem one1_fb : FB one1 3 := fb_i64 (by omega) (by omega)

/-- The mean number of dies, as the program reckons it. -/
def meanQ (n D : Nat) : Rat := ((D : Int) : Rat) / ((1 : Int) : Rat) * (one1 - powQ (one1 - ((1 : Int) : Rat) / ((D : Int) : Rat)) n)
theorem less_one {D : Nat} (hD : 1 ≤ D) : one1 - ((1 : Int) : Rat) / ((D : Int) : Rat) = frac false (D - 1) D := by
  have hD' : (D : Rat) ≠ 0 := by exact_mod_cast (show D ≠ 0 from by omega)
  rw [frac_false, show ((D - 1 : Nat) : Rat) = (D : Rat) - 1 from by
    have h : ((D - 1 + 1 : Nat) : Rat) = (D : Rat) := by rw [show D - 1 + 1 = D from by omega]
    rw [Rat.natCast_add] at h
    have h1 : ((1 : Nat) : Rat) = 1 := rfl
    grind]
  rw [Rat.intCast_natCast]
  show ((1 : Int) : Rat) / ((1 : Int) : Rat) - _ = _
  simp only [Rat.intCast_one, Rat.div_def]
  grind
theorem less_small {D : Nat} (hD1 : 1 ≤ D) (hD : D ≤ 60) : (one1 - ((1 : Int) : Rat) / ((D : Int) : Rat)).num.natAbs < 1000000000 ∧ (one1 - ((1 : Int) : Rat) / ((D : Int) : Rat)).den < 1000000000 := by
  rw [less_one hD1, frac_num (by omega), frac_den (by omega)]
  have h1 := Nat.div_le_self (D - 1) (Nat.gcd (D - 1) D)
  have h2 := Nat.div_le_self D (Nat.gcd (D - 1) D)
  omega

end Go.Proofs.YtjdpkmngboiemaaGreatDoor
