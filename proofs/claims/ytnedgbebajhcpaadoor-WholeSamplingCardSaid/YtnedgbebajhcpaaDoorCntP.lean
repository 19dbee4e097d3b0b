/- counting: what the program counts (program alone). -/
import Derived.Test.YtnedgbebajhcpaaDoorNum
import Derived.Test.YtnedgbebajhcpaaDoorNatural
import Derived.Test.YtnedgbebajhcpaaDoorRefOps
import Derived.Deep.DeepCutAuto
import Derived.Test.YtnedgbebajhcpaaDoorRefMul
import Derived.Test.YtnedgbebajhcpaaDoorText
set_option linter.unusedVariables false
set_option linter.unusedSimpArgs false
set_option maxRecDepth 100000
namespace Go.Proofs.YtnedgbebajhcpaaDoor
open Num

def chs : Nat → Nat → Nat
  | _, 0 => 1
  | 0, _ + 1 => 0
  | n + 1, k + 1 => chs n k + chs n (k + 1)

theorem chs_zero (n : Nat) : chs n 0 = 1 := by cases n <;> rfl
theorem chs_zero_succ (k : Nat) : chs 0 (k + 1) = 0 := rfl
theorem chs_succ (n k : Nat) : chs (n + 1) (k + 1) = chs n k + chs n (k + 1) := rfl
theorem chs_gt : ∀ (n k : Nat), n < k → chs n k = 0 := by
  intro n
  induction n with
  | zero => intro k h; cases k with
    | zero => omega
    | succ k => rfl
  | succ n ih => intro k h; cases k with
    | zero => omega
    | succ k => rw [chs_succ, ih k (by omega), ih (k + 1) (by omega)]
theorem chs_self (n : Nat) : chs n n = 1 := by
  induction n with
  | zero => rfl
  | succ n ih => rw [chs_succ, ih, chs_gt n (n + 1) (by omega)]
theorem chs_step : ∀ (n k : Nat), chs n (k + 1) * (k + 1) = chs n k * (n - k) := by
  intro n
  induction n with
  | zero => intro k; rw [chs_zero_succ]; simp
  | succ n ih =>
    intro k
    cases k with
    | zero =>
      have := ih 0
      rw [chs_zero] at this
      rw [chs_succ, chs_zero, chs_zero]
      omega
    | succ k =>
      rcases Nat.lt_or_ge n k with h | h
      · rw [chs_gt (n + 1) (k + 1 + 1) (by omega), chs_gt (n + 1) (k + 1) (by omega)]; simp
      · have h1 := ih k
        have h2 := ih (k + 1)
        rw [chs_succ, chs_succ n k]
        generalize chs n (k + 1) = c at *
        generalize chs n (k + 1 + 1) = d at *
        generalize chs n k = b at *
        obtain ⟨m, rfl⟩ : ∃ m, n = k + m := ⟨n - k, by omega⟩
        rw [show k + m - k = m from by omega] at h1
        rw [show k + m + 1 - (k + 1) = m from by omega]
        rw [Nat.add_mul, h2, Nat.add_mul, ← h1, ← Nat.mul_add, ← Nat.mul_add]
        rcases Nat.eq_zero_or_pos m with hm | hm
        · subst hm
          have : c = 0 := by
            rw [Nat.mul_zero] at h1
            exact (Nat.mul_eq_zero.1 h1).resolve_right (by omega)
          rw [this]; simp
        · congr 1; omega
theorem chs_symm : ∀ (n k : Nat), k ≤ n → chs n k = chs n (n - k) := by
  intro n
  induction n with
  | zero => intro k h; rw [show k = 0 from by omega]
  | succ n ih =>
    intro k h
    cases k with
    | zero => rw [chs_zero, Nat.sub_zero, chs_self]
    | succ k =>
      rcases Nat.lt_or_ge k n with h' | h'
      · obtain ⟨m, hm⟩ : ∃ m, n - k = m + 1 := ⟨n - k - 1, by omega⟩
        rw [show n + 1 - (k + 1) = m + 1 from by omega, chs_succ, chs_succ, ih k (by omega), ih (k + 1) (by omega), hm, show n - (k + 1) = m from by omega, Nat.add_comm]
      · rw [show n = k from by omega, chs_self, show k + 1 - (k + 1) = 0 from by omega, chs_zero]
theorem chs_pos : ∀ (n k : Nat), k ≤ n → 0 < chs n k := by
  intro n
  induction n with
  | zero => intro k h; rw [show k = 0 from by omega]; decide
  | succ n ih =>
    intro k h
    cases k with
    | zero => rw [chs_zero]; omega
    | succ k => rw [chs_succ]; have := ih k (by omega); omega
theorem chs_le : ∀ (n k : Nat), chs n k ≤ 2 ^ n := by
  intro n
  induction n with
  | zero => intro k; cases k with
    | zero => decide
    | succ k => rw [chs_zero_succ]; omega
  | succ n ih =>
    intro k
    cases k with
    | zero => rw [chs_zero]; exact Nat.one_le_two_pow
    | succ k => rw [chs_succ, Nat.pow_succ]; have := ih k; have := ih (k + 1); omega

def fall (n : Nat) : Nat → Nat
  | 0 => 1
  | k + 1 => fall n k * (n - k)
theorem fall_succ (n k : Nat) : fall n (k + 1) = fall n k * (n - k) := rfl
theorem fall_gt (n : Nat) : ∀ k, n < k → fall n k = 0 := by
  intro k
  induction k with
  | zero => intro h; omega
  | succ k ih =>
    intro h
    rw [fall_succ]
    rcases Nat.lt_or_ge n k with h' | h'
    · rw [ih h', Nat.zero_mul]
    · rw [show n - k = 0 from by omega, Nat.mul_zero]
def fact : Nat → Nat
  | 0 => 1
  | k + 1 => fact k * (k + 1)
theorem fact_succ (k : Nat) : fact (k + 1) = fact k * (k + 1) := rfl
theorem fall_chs (n : Nat) : ∀ k, fall n k = chs n k * fact k := by
  intro k
  induction k with
  | zero => rw [chs_zero]; rfl
  | succ k ih => rw [fall_succ, ih, fact_succ, ← Nat.mul_assoc, Nat.mul_right_comm, ← chs_step, Nat.mul_right_comm]
theorem fall_self (n : Nat) : fall n n = fact n := by rw [fall_chs, chs_self, Nat.one_mul]

def stir : Nat → Nat → Nat
  | 0, 0 => 1
  | 0, _ + 1 => 0
  | _ + 1, 0 => 0
  | n + 1, k + 1 => stir n k + (k + 1) * stir n (k + 1)
theorem stir_succ (n k : Nat) : stir (n + 1) (k + 1) = stir n k + (k + 1) * stir n (k + 1) := rfl
theorem stir_succ_zero (n : Nat) : stir (n + 1) 0 = 0 := rfl
theorem stir_gt : ∀ (n k : Nat), n < k → stir n k = 0 := by
  intro n
  induction n with
  | zero => intro k h; cases k with
    | zero => omega
    | succ k => rfl
  | succ n ih => intro k h; cases k with
    | zero => omega
    | succ k => rw [stir_succ, ih k (by omega), ih (k + 1) (by omega), Nat.mul_zero]
theorem stir_le : ∀ (n k : Nat), stir n k ≤ (k + 1) ^ n := by
  intro n
  induction n with
  | zero => intro k; cases k with
    | zero => decide
    | succ k => exact Nat.zero_le _
  | succ n ih =>
    intro k
    cases k with
    | zero => rw [stir_succ_zero]; exact Nat.zero_le _
    | succ k =>
      rw [stir_succ, Nat.pow_succ]
      have h1 := ih k
      have h2 := Nat.mul_le_mul_left (k + 1) (ih (k + 1))
      have h3 : (k + 1) ^ n ≤ (k + 1 + 1) ^ n := Nat.pow_le_pow_left (by omega) n
      generalize (k + 1 + 1) ^ n = P at *
      rw [Nat.mul_comm P, Nat.add_mul (k + 1) 1 P]
      omega

def sumTo (f : Nat → Nat) : Nat → Nat
  | 0 => 0
  | n + 1 => sumTo f n + f n
theorem sumTo_succ (f : Nat → Nat) (n : Nat) : sumTo f (n + 1) = sumTo f n + f n := rfl
theorem sumTo_congr {f g : Nat → Nat} {n : Nat} (h : ∀ k, k < n → f k = g k) : sumTo f n = sumTo g n := by
  induction n with
  | zero => rfl
  | succ n ih => rw [sumTo_succ, sumTo_succ, ih fun k hk => h k (by omega), h n (by omega)]
theorem sumTo_add (f g : Nat → Nat) (n : Nat) : sumTo (fun k => f k + g k) n = sumTo f n + sumTo g n := by
  induction n with
  | zero => rfl
  | succ n ih => rw [sumTo_succ, sumTo_succ, sumTo_succ, ih]; omega
theorem sumTo_mul (c : Nat) (f : Nat → Nat) (n : Nat) : sumTo (fun k => c * f k) n = c * sumTo f n := by
  induction n with
  | zero => rfl
  | succ n ih => rw [sumTo_succ, sumTo_succ, ih, Nat.mul_add]
theorem sumTo_first (f : Nat → Nat) (n : Nat) : sumTo f (n + 1) = f 0 + sumTo (fun k => f (k + 1)) n := by
  induction n with
  | zero => simp [sumTo]
  | succ n ih => rw [sumTo_succ, ih, sumTo_succ]; omega

theorem fall_next (x k : Nat) : fall x (k + 1) + k * fall x k = x * fall x k := by
  rw [fall_succ]
  rcases Nat.lt_or_ge x k with h | h
  · rw [fall_gt x k h]; simp
  · rw [Nat.mul_comm, ← Nat.add_mul]; congr 1; omega
theorem stir_powers (x n : Nat) : sumTo (fun k => stir n k * fall x k) (n + 1) = x ^ n := by
  induction n with
  | zero => simp [sumTo, stir, fall]
  | succ n ih =>
    rw [sumTo_first, stir_succ_zero, Nat.zero_mul, Nat.zero_add, Nat.pow_succ, Nat.mul_comm, ← ih, ← sumTo_mul]
    have h1 : sumTo (fun k => stir (n + 1) (k + 1) * fall x (k + 1)) (n + 1) = sumTo (fun k => stir n k * fall x (k + 1)) (n + 1) + sumTo (fun k => (k + 1) * stir n (k + 1) * fall x (k + 1)) (n + 1) := by
      rw [← sumTo_add]
      exact sumTo_congr fun k _ => by rw [stir_succ, Nat.add_mul]
    have h2 : sumTo (fun k => (k + 1) * stir n (k + 1) * fall x (k + 1)) (n + 1) = sumTo (fun k => k * stir n k * fall x k) (n + 1) := by
      have e1 := sumTo_first (fun k => k * stir n k * fall x k) (n + 1)
      have e2 := sumTo_succ (fun k => k * stir n k * fall x k) (n + 1)
      simp only [Nat.zero_mul, Nat.zero_add] at e1
      rw [stir_gt n (n + 1) (by omega), Nat.mul_zero, Nat.zero_mul, Nat.add_zero] at e2
      rw [e2] at e1
      exact e1.symm
    rw [h1, h2, ← sumTo_add]
    refine sumTo_congr fun k _ => ?_
    have := fall_next x k
    rw [show k * stir n k * fall x k = stir n k * (k * fall x k) from by rw [Nat.mul_comm k, Nat.mul_assoc], ← Nat.mul_add, this, Nat.mul_left_comm]

theorem chs_len (n k : Nat) : (limbsOf (chs n k)).length ≤ n + 1 := len_of_le_pow (chs_le n k) (by omega)
theorem stir_len {n k : Nat} (hk : k < 999999999) : (limbsOf (stir n k)).length ≤ n + 1 := len_of_le_pow (stir_le n k) (by omega)
theorem fall_len {n : Nat} (hn : n < 1000000000) : ∀ k, (limbsOf (fall n k)).length ≤ k + 1 := by
  intro k
  induction k with
  | zero => exact len_small (by show 1 < _; omega)
  | succ k ih =>
    rw [fall_succ]
    have := limbsOf_length_mul (fall n k) (n - k)
    have := len_small (x := n - k) (by omega)
    omega
theorem fact_len : ∀ k, k < 1000000000 → (limbsOf (fact k)).length ≤ k + 1 := by
  intro k hk
  rw [← fall_self]
  exact fall_len hk k


end Go.Proofs.YtnedgbebajhcpaaDoor

namespace Go.Proofs.YtnedgbebajhcpaaDoor
open Go.RowKit Num

theorem cof_i {z : Int} {w : World} (h0 : 0 ≤ z) (h1 : z < 9223372036854775808) :
    Calls Tryd.prog 108 #[.int .i64 z] w (GivesN w z.toNat) := by
  obtain ⟨n, rfl⟩ : ∃ n : Nat, z = n := ⟨z.toNat, by omega⟩
  rw [Int.toNat_natCast]
  go_enter Tryd.func108, Tryd.ntmps108
  go_wp2_with fail
  refine (of_n (n := n) (by omega)).mono ?_
  rintro e w1 ⟨A1, k1, c1, rfl, h1, x1, n1⟩
  obtain ⟨z1, zf1⟩ := box_new x1
  have hE := ext_new x1
  simp at n1
  go_wp2
  refine bodyPost_ret (v := .agg #[.slice A1 k1 c1]) (by simp [results, Tryd.results108, go_sem, World.cell?_setCell_same _ _ _ z1]) rfl ?_
  obtain ⟨r1, r2, r3⟩ := res_box (u := .slice A1 k1 c1) hE h1 n1
  exact ⟨_, _, _, rfl, r1, r2, r3⟩

theorem cof_e {z : Int} {m : Nat} {w : World} (he : z = (m : Int)) (h1 : m < 9223372036854775808) :
    Calls Tryd.prog 108 #[.int .i64 z] w (GivesN w m) := by
  subst he
  have := cof_i (z := (m : Int)) (w := w) (by omega) (by omega)
  rwa [Int.toNat_natCast] at this

set_option maxHeartbeats 1000000 in
theorem falling_n {n k : Nat} {w : World} (hn : n ≤ 200) (hk : k ≤ 200) :
    Calls Tryd.prog 98 #[.int .i64 n, .int .i64 k] w (GivesN w (fall n k)) := by
  go_enter Tryd.func98, Tryd.ntmps98
  go_wp2_with fail
  refine (cof_i (z := 1) (by omega) (by omega)).mono ?_
  rintro e w1 ⟨A1, k1, c1, rfl, h1, x1, n1⟩
  obtain ⟨z1, zf1⟩ := box_new x1
  have hE := ext_new x1
  simp at n1
  have hs1 : w.heap.size < w1.heap.size := by have := x1.size; simp at this; omega
  clear x1
  go_wp2
  go_loopw [9] (fun iv wr => ∃ (i : Nat), i ≤ k ∧ iv = .int .i64 i ∧ OutB w1 w1.heap.size (w.heap.size + 1) (fall n i) wr) (fun iv _ => k - (intOf iv).toNat)
  case atStart => exact ⟨0, Nat.zero_le _, rfl, OutB.start h1 n1 _⟩
  case round =>
    obtain ⟨i, hi, rfl, A, m, c, hc, hf, hC, hx, hN⟩ := hrel
    have hb : w1.heap.size < wr.heap.size := World.block_lt_of_cell? _ _ hc
    by_cases hik : i < k
    · have HS := Lib.hid (fun (w' : World) (h : Ext wr w') => (⟨(h.cell (p := ⟨w1.heap.size, 0, none⟩) hb).trans hc, (h.frozen (p := ⟨w1.heap.size, 0, none⟩) hb).trans hf⟩ : w'.cell? ⟨w1.heap.size, 0, none⟩ = some (.slice A m c) ∧ w'.frozen? ⟨w1.heap.size, 0, none⟩ = false))
      have HL := Lib.hid (fall_len (n := n) (by omega) i)
      have HO := Lib.hid (fun (w' : World) (h : Ext wr w') => CanV.nat (hC.below h) (by have := HL.out; unfold Fit; omega))
      have HM := Lib.hid (len_small (x := n - i) (by omega))
      clear hC
      have hw : IntKind.i64.wrap ((n : Int) - (i : Int)) = (n : Int) - (i : Int) := wrap_in (by omega)
      rcases Nat.lt_or_ge n i with hni | hni
      all_goals
        go_upto_region 5 with (fail)
        go_region_law (first
          | (go_simp; go_at_call 108; (with_reducible refine (cof_e (m := n - i) (by omega) (by omega)).mono ?_); rintro e w5 ⟨A5, k5, c5, rfl, h5, x5, n5⟩; have e5 : Ext wr w5 := Ext.trans (by first | ((repeat first | assumption | exact Below.refl _ _ | refine ext_alloc ?_ _ | refine ext_drew ?_ | refine ext_set ?_ (by first | omega | (simp; done) | (simp; omega)) _); done) | fail) x5; obtain ⟨cc5, ff5⟩ := HS.out _ e5)
          | (go_simp; go_at_call 39; (with_reducible refine (mul_n (HO.out _ (by first | ((repeat first | assumption | exact Below.refl _ _ | refine ext_alloc ?_ _ | refine ext_drew ?_ | refine ext_set ?_ (by first | omega | (simp; done) | (simp; omega)) _); done) | fail)) (NatV.below (CanV.nat h5 (fit_small (by omega))) (by first | ((repeat first | assumption | exact Below.refl _ _ | refine ext_alloc ?_ _ | refine ext_drew ?_ | refine ext_set ?_ (by first | omega | (simp; done) | (simp; omega)) _); done) | fail)) (by have := HL.out; have := HM.out; omega)).mono ?_); rintro e w6 ⟨A6, k6, c6, rfl, h6, x6, n6⟩; have e6 : Ext wr w6 := Ext.trans (by first | ((repeat first | assumption | exact Below.refl _ _ | refine ext_alloc ?_ _ | refine ext_drew ?_ | refine ext_set ?_ (by first | omega | (simp; done) | (simp; omega)) _); done) | fail) x6; obtain ⟨cc6, ff6⟩ := HS.out _ e6; have y6 := x6.size; have y5 := e5.size; (try simp at y6)))
        all_goals go_wp2
        all_goals go_roundw
        all_goals first
          | (exact ⟨i + 1, by omega, by go_num, by rw [fall_succ]; exact OutB.set cc6 ff6 h6 (hx.trans e6) n6 (by omega) (by omega) (Nat.le_refl _)⟩)
          | (simp [intOf]; omega)
    · obtain rfl : i = k := by omega
      have hc0 := (hx.cell (p := ⟨w.heap.size, 0, none⟩) hs1).trans z1
      have hf0 := (hx.frozen (p := ⟨w.heap.size, 0, none⟩) hs1).trans zf1
      clear z1 zf1
      go_wp2
      refine bodyPost_ret (v := .agg #[.slice A m c]) (by simp [results, Tryd.results98, go_sem, World.cell?_setCell_same _ _ _ hc0]) rfl ?_
      obtain ⟨r1, r2, r3⟩ := res_box (u := .slice A m c) (hE.trans hx) hC hN
      exact ⟨_, _, _, rfl, r1, r2, r3⟩

theorem chs_div (n i : Nat) : chs n i * (n - i) / (i + 1) = chs n (i + 1) := by
  rw [← chs_step]; exact Nat.mul_div_cancel _ (Nat.succ_pos i)
/-- Binomial coefficients, of any numbers. -/
def binI (n : Nat) (k : Int) : Nat := if k < 0 then 0 else chs n k.toNat
theorem binI_out {n : Nat} {k : Int} (h : k < 0 ∨ (n : Int) < k) : binI n k = 0 := by
  unfold binI
  split
  · rfl
  · exact chs_gt _ _ (by omega)
theorem binI_nat (n k : Nat) : binI n (k : Int) = chs n k := by unfold binI; rw [if_neg (by omega), Int.toNat_natCast]

theorem binomial_out {n : Nat} {k : Int} {w : World} (hn : n ≤ 300) (hk : k < 0 ∨ (n : Int) < k) :
    Calls Tryd.prog 96 #[.int .i64 n, .int .i64 k] w (GivesN w 0) := by
  rcases hk with hk | hk
  all_goals
    go_enter Tryd.func96, Tryd.ntmps96
    go_wp2_with fail
    refine (cof_i (z := 0) (by omega) (by omega)).mono ?_
    rintro e w1 ⟨A1, k1, c1, rfl, h1, x1, n1⟩
    obtain ⟨z1, zf1⟩ := box_new x1
    have hE := ext_new x1
    simp at n1
    go_wp2
    refine bodyPost_ret (v := .agg #[.slice A1 k1 c1]) (by simp [results, Tryd.results96, go_sem, World.cell?_setCell_same _ _ _ z1]) rfl ?_
    obtain ⟨r1, r2, r3⟩ := res_box (u := .slice A1 k1 c1) hE h1 n1
    exact ⟨_, _, _, rfl, r1, r2, r3⟩

set_option maxHeartbeats 2000000 in
theorem binomial_in {n k : Nat} {w : World} (hn : n ≤ 300) (hk : k ≤ n) :
    Calls Tryd.prog 96 #[.int .i64 n, .int .i64 k] w (GivesN w (chs n k)) := by
  have hmin : ∃ m, (k ≤ n - k ∧ m = k ∨ n - k < k ∧ m = n - k) := by
    rcases Nat.lt_or_ge (n - k) k with h | h
    · exact ⟨n - k, .inr ⟨h, rfl⟩⟩
    · exact ⟨k, .inl ⟨h, rfl⟩⟩
  obtain ⟨m, hmin⟩ := hmin
  have hfin : chs n k = chs n m := by
    rcases hmin with ⟨_, rfl⟩ | ⟨_, rfl⟩
    · rfl
    · exact chs_symm n k hk
  rw [hfin]
  clear hfin
  have hmn : m ≤ n := by omega
  go_enter Tryd.func96, Tryd.ntmps96
  go_wp2_with fail
  refine (cof_i (z := 1) (by omega) (by omega)).mono ?_
  rintro e w1 ⟨A1, k1, c1, rfl, h1, x1, n1⟩
  obtain ⟨z1, zf1⟩ := box_new x1
  have hE := ext_new x1
  simp at n1
  have hs1 : w.heap.size < w1.heap.size := by have := x1.size; simp at this; omega
  clear x1
  rcases hmin with ⟨hm1, hm2⟩ | ⟨hm1, hm2⟩
  all_goals
    have HM2 := Lib.hid hm2
    clear hm2
  all_goals go_wp2
  all_goals
    go_loopw [21] (fun iv wr => ∃ (i : Nat), i ≤ m ∧ iv = .int .i64 i ∧ OutB w1 w1.heap.size (w.heap.size + 1) (chs n i) wr) (fun iv _ => m - (intOf iv).toNat)
    case atStart => exact ⟨0, Nat.zero_le _, rfl, by rw [chs_zero]; exact OutB.start h1 n1 _⟩
    case round =>
      obtain ⟨i, hi, rfl, A, m0, c, hc, hf, hC, hx, hN⟩ := hrel
      have hb : w1.heap.size < wr.heap.size := World.block_lt_of_cell? _ _ hc
      by_cases him : i < m
      · have HS := Lib.hid (fun (w' : World) (h : Ext wr w') => (⟨(h.cell (p := ⟨w1.heap.size, 0, none⟩) hb).trans hc, (h.frozen (p := ⟨w1.heap.size, 0, none⟩) hb).trans hf⟩ : w'.cell? ⟨w1.heap.size, 0, none⟩ = some (.slice A m0 c) ∧ w'.frozen? ⟨w1.heap.size, 0, none⟩ = false))
        have HL := Lib.hid (chs_len n i)
        have HO := Lib.hid (fun (w' : World) (h : Ext wr w') => CanV.nat (hC.below h) (by have := HL.out; unfold Fit; omega))
        have HM := Lib.hid (len_small (x := n - i) (by omega))
        have HP := Lib.hid (limbsOf_length_mul (chs n i) (n - i))
        have HV := Lib.hid (chs_div n i)
        clear hC
        have hw2 : IntKind.i64.wrap ((i : Int) + 1) = (i : Int) + 1 := wrap_in (by omega)
        have ht1 : i < k := by have := HM2.out; omega
        have ht2 : i + k < n := by have := HM2.out; omega
        have hw : IntKind.i64.wrap ((n : Int) - (i : Int)) = (n : Int) - (i : Int) := wrap_in (by omega)
        go_upto_region 7 with (fail)
        go_region_law (first
          | (go_simp; go_at_call 108; (with_reducible refine (cof_e (m := n - i) (by omega) (by omega)).mono ?_); rintro e w5 ⟨A5, k5, c5, rfl, h5, x5, n5⟩; have e5 : Ext wr w5 := Ext.trans (by first | ((repeat first | assumption | exact Below.refl _ _ | refine ext_alloc ?_ _ | refine ext_drew ?_ | refine ext_set ?_ (by first | omega | (simp; done) | (simp; omega)) _); done) | fail) x5; obtain ⟨cc5, ff5⟩ := HS.out _ e5)
          | (go_simp; go_at_call 108; (with_reducible refine (cof_e (m := i + 1) (by omega) (by omega)).mono ?_); rintro e w6 ⟨A6, k6, c6, rfl, h6, x6, n6⟩; have e6 : Ext wr w6 := Ext.trans (by first | ((repeat first | assumption | exact Below.refl _ _ | refine ext_alloc ?_ _ | refine ext_drew ?_ | refine ext_set ?_ (by first | omega | (simp; done) | (simp; omega)) _); done) | fail) x6; obtain ⟨cc6, ff6⟩ := HS.out _ e6)
          | (go_simp; go_at_call 39; (with_reducible refine (mul_n (HO.out _ (by first | ((repeat first | assumption | exact Below.refl _ _ | refine ext_alloc ?_ _ | refine ext_drew ?_ | refine ext_set ?_ (by first | omega | (simp; done) | (simp; omega)) _); done) | fail)) (NatV.below (CanV.nat h5 (fit_small (by omega))) (by first | ((repeat first | assumption | exact Below.refl _ _ | refine ext_alloc ?_ _ | refine ext_drew ?_ | refine ext_set ?_ (by first | omega | (simp; done) | (simp; omega)) _); done) | fail)) (by have := HL.out; have := HM.out; omega)).mono ?_); rintro e w7 ⟨A7, k7, c7, rfl, h7, x7, n7⟩; have e7 : Ext wr w7 := Ext.trans (by first | ((repeat first | assumption | exact Below.refl _ _ | refine ext_alloc ?_ _ | refine ext_drew ?_ | refine ext_set ?_ (by first | omega | (simp; done) | (simp; omega)) _); done) | fail) x7; obtain ⟨cc7, ff7⟩ := HS.out _ e7)
          | (go_simp; go_at_call 62; (with_reducible refine (divmod_pos (NatV.below (CanV.nat h7 (by unfold Fit; have := HL.out; have := HM.out; have := HP.out; omega)) (by first | ((repeat first | assumption | exact Below.refl _ _ | refine ext_alloc ?_ _ | refine ext_drew ?_ | refine ext_set ?_ (by first | omega | (simp; done) | (simp; omega)) _); done) | fail)) (NatV.below (CanV.nat h6 (fit_small (by omega))) (by first | ((repeat first | assumption | exact Below.refl _ _ | refine ext_alloc ?_ _ | refine ext_drew ?_ | refine ext_set ?_ (by first | omega | (simp; done) | (simp; omega)) _); done) | fail)) (Nat.succ_pos i) (by have := HL.out; have := HM.out; have := HP.out; omega)).mono ?_); rintro e w8 ⟨A8, k8, c8, A9, k9, c9, rfl, h8, h9, x8, n8, n9⟩; have e8 : Ext wr w8 := Ext.trans (by first | ((repeat first | assumption | exact Below.refl _ _ | refine ext_alloc ?_ _ | refine ext_drew ?_ | refine ext_set ?_ (by first | omega | (simp; done) | (simp; omega)) _); done) | fail) x8; obtain ⟨cc8, ff8⟩ := HS.out _ e8; have y8 := x8.size; have y7 := e7.size; have y6 := e6.size; (try simp at y8)))
        all_goals go_wp2
        all_goals go_roundw
        all_goals first
          | (exact ⟨i + 1, by omega, by go_num, by rw [← HV.out]; exact OutB.set cc8 ff8 h8 (hx.trans e8) n8 (by omega) (by omega) (Nat.le_refl _)⟩)
          | (simp [intOf]; omega)
      · have hie : i = m := by omega
        have hq : n ≤ i + k ∨ k ≤ i := by have := HM2.out; omega
        first | (have hq1 : k ≤ i := by have := HM2.out; omega) | (have hq1 : n ≤ i + k := by have := HM2.out; omega)
        clear hq
        subst hie
        have hc0 := (hx.cell (p := ⟨w.heap.size, 0, none⟩) hs1).trans z1
        have hf0 := (hx.frozen (p := ⟨w.heap.size, 0, none⟩) hs1).trans zf1
        clear z1 zf1
        go_wp2
        refine bodyPost_ret (v := .agg #[.slice A m0 c]) (by simp [results, Tryd.results96, go_sem, World.cell?_setCell_same _ _ _ hc0]) rfl ?_
        obtain ⟨r1, r2, r3⟩ := res_box (u := .slice A m0 c) (hE.trans hx) hC hN
        exact ⟨_, _, _, rfl, r1, r2, r3⟩


end Go.Proofs.YtnedgbebajhcpaaDoor

namespace Go.Proofs.YtnedgbebajhcpaaDoor
open Go.RowKit Num

def binV (n k : Int) : Nat := if 0 ≤ n ∧ n ≤ 300 then binI n.toNat k else 0

theorem within_t {n h : Int} {w : World} (h0 : 0 ≤ n ∧ n ≤ h) : Calls Tryd.prog 95 #[.int .i64 n, .int .i64 h] w (fun e w' => e = .returned (.bool true) ∧ w' = w) := by
  obtain ⟨h1, h2⟩ := h0
  have hb : decide (n ≤ h) = true := by simpa using h2
  clear h2
  go_enter Tryd.func95, Tryd.ntmps95
  go_wp2
  go_ret
  exact ⟨rfl, rfl⟩
theorem within_f {n h : Int} {w : World} (h0 : n < 0 ∨ h < n) : Calls Tryd.prog 95 #[.int .i64 n, .int .i64 h] w (fun e w' => e = .returned (.bool false) ∧ w' = w) := by
  by_cases hn : n < 0
  · clear h0
    go_enter Tryd.func95, Tryd.ntmps95
    go_wp2
    go_ret
    exact ⟨rfl, rfl⟩
  · have hb : decide (n ≤ h) = false := by simp; omega
    clear h0
    go_enter Tryd.func95, Tryd.ntmps95
    go_wp2
    go_ret
    exact ⟨rfl, rfl⟩

set_option maxHeartbeats 1000000 in
theorem cbin_bad {n k : Int} {w : World} (h : ¬ (0 ≤ n ∧ n ≤ 300)) :
    Calls Tryd.prog 78 #[.int .i64 n, .int .i64 k] w (GivesT w 0 2) := by
  have h' : n < 0 ∨ 300 < n := by omega
  clear h
  go_enter Tryd.func78, Tryd.ntmps78
  go_wp2_with (go_at_call 95; refine (within_f h').mono ?_; rintro e w1 ⟨rfl, rfl⟩)
  refine bodyPost_ret (v := .tuple #[.agg #[.slice none 0 0], .int .i64 2]) (by simp [results, Tryd.results78, go_sem]) rfl ?_
  exact GivesT.zero

set_option maxHeartbeats 1000000 in
theorem cbin_ok {n k : Int} {w : World} (h1 : 0 ≤ n) (h2 : n ≤ 300) :
    Calls Tryd.prog 78 #[.int .i64 n, .int .i64 k] w (GivesT w (binI n.toNat k) 0) := by
  obtain ⟨m, rfl⟩ : ∃ m : Nat, n = m := ⟨n.toNat, by omega⟩
  rw [Int.toNat_natCast]
  have hc : ∀ w, Calls Tryd.prog 96 #[.int .i64 m, .int .i64 k] w (GivesN w (binI m k)) := by
    intro w
    by_cases hk : k < 0 ∨ (m : Int) < k
    · rw [binI_out hk]; exact binomial_out (by omega) hk
    · obtain ⟨j, rfl⟩ : ∃ j : Nat, k = j := ⟨k.toNat, by omega⟩
      rw [binI_nat]; exact binomial_in (by omega) (by omega)
  have HC := Lib.hid hc
  clear hc
  go_enter Tryd.func78, Tryd.ntmps78
  go_wp2_with (first
    | (go_at_call 95; refine (within_t ⟨h1, h2⟩).mono ?_; rintro e w1 ⟨rfl, rfl⟩)
    | (go_at_call 96; refine (HC.out _).mono ?_; rintro e w1 ⟨A1, k1, c1, rfl, y1, x1, n1⟩; obtain ⟨z1, zf1⟩ := box_new x1; have hE := ext_new x1; simp at n1))
  refine bodyPost_ret (v := .tuple #[.agg #[.slice A1 k1 c1], .int .i64 0]) (by simp [results, Tryd.results78, go_sem, World.cell?_setCell_same _ _ _ z1]) rfl ?_
  exact GivesT.box hE y1 n1

theorem cbin_any {n k : Int} {w : World} : Calls Tryd.prog 78 #[.int .i64 n, .int .i64 k] w (GivesT w (binV n k) (okE (0 ≤ n ∧ n ≤ 300))) := by
  unfold binV okE
  by_cases h : 0 ≤ n ∧ n ≤ 300
  · rw [if_pos h, if_pos h]; exact cbin_ok h.1 h.2
  · rw [if_neg h, if_neg h]; exact cbin_bad h

end Go.Proofs.YtnedgbebajhcpaaDoor

namespace Go.Proofs.YtnedgbebajhcpaaDoor
open Go.RowKit Num

theorem info_nat : (Tryd.prog.info? 26).map (fun i => (i.zero, i.size, i.bytes)) = some (some (.agg #[.slice none 0 0]), 1, 24) := by kernel_rfl

section
variable {e : TypeId} {base B : Nat} {w w' w1 : World} {v v' u : Value} {us : List Value} {ns : List Nat} {m : Nat}
theorem OwnN.lit (w : World) (hb : base ≤ w.heap.size) (hu : CanV w u m) (hn : New B u) : OwnN e base B (w.alloc (.cells #[u] e)) (.slice (some ⟨w.heap.size, 0, none⟩) 1 1) [u] [m] := by
  refine ⟨?_, fun k x y hx hy => ?_⟩
  · have := World.ownsRow_lit (base := base) (e := e) (size := 1) w #[u] 1 hb (by unfold maxLen; omega) rfl
    simpa using this
  · rw [List.getElem?_singleton] at hx hy
    split at hx
    · simp_all
      subst hx hy
      exact ⟨hu.alloc _, Far.new hu (New.at_ (Nat.le_refl _))⟩
    · cases hx
theorem OwnN.grow (h : OwnN e base B w v us ns) (hE : Ext w w1) (hu : CanV w1 u m) (hn : New w.heap.size u) (hB : B ≤ w.heap.size) (hown : w'.ownsRow base e 1 v' (ns.length + 1) (us ++ [u])) (hg : w1.grownBy w' v.ownBlock) (hw : v'.ownBlock = v.ownBlock ∨ New w1.heap.size v') :
    OwnN e base B w' v' (us ++ [u]) (ns ++ [m]) :=
  (h.ext hE).push hu (Far.of_new hn fun g hg => (h.1.lt g hg).2) (hn.mono hB) hown hg hw
theorem OwnN.grow_ext {W : World} (h : OwnN e W.heap.size B w v us ns) (hx : Ext W w) (hE : Ext w w1) (hg : w1.grownBy w' v.ownBlock) : Ext W w' :=
  Below.grown (Ext.trans hx hE) hg (by have := hx.size; have := hE.size; omega) fun k hk => (h.1.lt k hk).1
end

def pasc (n : Nat) : List Nat := (List.range (n + 1)).map (chs n)
theorem pasc_at {n k : Nat} (h : k ≤ n) : (pasc n)[k]? = some (chs n k) := by unfold pasc; rw [List.getElem?_map, List.getElem?_range (by omega)]; rfl
theorem pasc_length (n : Nat) : (pasc n).length = n + 1 := by simp [pasc]
def upto_ (f : Nat → Nat) (k : Nat) : List Nat := (List.range k).map f
theorem upto_succ (f : Nat → Nat) (k : Nat) : upto_ f (k + 1) = upto_ f k ++ [f k] := by simp [upto_, List.range_succ]
theorem upto_length (f : Nat → Nat) (k : Nat) : (upto_ f k).length = k := by simp [upto_]
theorem upto_at {f : Nat → Nat} {n k : Nat} (h : k < n) : (upto_ f n)[k]? = some (f k) := by unfold upto_; rw [List.getElem?_map, List.getElem?_range h]; rfl
/-- A list of Naturals as an answer. -/
def GivesL (w : World) (ns : List Nat) (e : Ending) (w' : World) : Prop := ∃ A c, e = .returned (.slice A ns.length c) ∧ NatsV w.heap.size w' (.slice A ns.length c) ns ∧ Ext w w' ∧ New w.heap.size (.slice A ns.length c)

end Go.Proofs.YtnedgbebajhcpaaDoor

namespace Go.Proofs.YtnedgbebajhcpaaDoor
open Go.RowKit Num

section
variable {e : TypeId} {base : Nat} {w w' w1 : World} {v v' u : Value} {us : List Value} {ns : List Nat} {m : Nat}
theorem Far.old {wo : World} {xs : List Nat} (hu : U32s wo u xs) (hv : ∀ g, v.ownBlock = some g → wo.heap.size ≤ g) : Far u v := by
  intro A n c g e hg
  subst e
  have h1 := hu.lt
  have h2 := hv g hg
  omega
end
theorem stir_top (i : Nat) : stir (i + 1) (i + 1) = stir i i := by rw [stir_succ, stir_gt i (i + 1) (by omega), Nat.mul_zero, Nat.add_zero]

set_option maxHeartbeats 4000000 in
theorem crow_n {n : Nat} {w : World} (hn : n ≤ 64) :
    Calls Tryd.prog 109 #[.int .i64 n] w (GivesL w (upto_ (stir n) (n + 1))) := by
  obtain ⟨i0, hi, hz0, hz1, hz2⟩ := info_parts info_nat
  go_enter Tryd.func109, Tryd.ntmps109
  go_wp2_with fail
  refine (cof_e (m := 1) (by omega) (by omega)).mono ?_
  rintro e w1 ⟨A1, k1, c1, rfl, h1, x1, n1⟩
  have hl := OwnN.lit (e := 26) (base := w.heap.size) w1 x1.size h1 n1
  have hl2 := hl.nats
  have hx1 : Ext w (w1.alloc (.cells #[.slice A1 k1 c1] 26)) := ext_alloc x1 _
  clear hl n1 h1
  go_wp2
  generalize w1.alloc (.cells #[.slice A1 k1 c1] 26) = W1 at *
  go_loopw [3, 11] (fun ov iv wr => ∃ (i : Nat) (A : Option Addr) (c : Nat), i ≤ n ∧ iv = .int .i64 i ∧ ov = .slice A (i + 1) c ∧ NatsV w.heap.size wr (.slice A (i + 1) c) (upto_ (stir i) (i + 1)) ∧ Ext w wr ∧ New w.heap.size (.slice A (i + 1) c))
    (fun _ iv _ => n + 1 - (intOf iv).toNat)
  case atStart => exact ⟨0, _, 1, Nat.zero_le _, by go_num, rfl, hl2, hx1, New.at_ x1.size⟩
  case round =>
    obtain ⟨i, A, c, hin, rfl, rfl, hv, hx, hnw⟩ := hrel
    by_cases hik : i < n
    · go_wp2_with fail
      refine (cof_e (m := 0) (by omega) (by omega)).mono ?_
      rintro e w2 ⟨A2, k2, c2, rfl, h2, x2, n2⟩
      have hl := OwnN.lit (e := 26) (base := wr.heap.size) w2 x2.size h2 (n2.mono hx.size)
      have hx3 : Ext wr (w2.alloc (.cells #[.slice A2 k2 c2] 26)) := ext_alloc x2 _
      clear n2 h2
      go_wp2
      generalize w2.alloc (.cells #[.slice A2 k2 c2] 26) = W2 at *
      obtain ⟨wo, hwo⟩ : ∃ wo : World, wo = wr := ⟨_, rfl⟩
      subst hwo
      go_loopw [5, 6] (fun nv kv wr => ∃ (k : Nat) (us : List Value), 1 ≤ k ∧ k ≤ i + 2 ∧ kv = .int .i64 k ∧ OwnN 26 wo.heap.size w.heap.size wr nv us (upto_ (stir (i + 1)) k) ∧ Ext wo wr)
        (fun _ kv _ => i + 2 - (intOf kv).toNat)
      case atStart => exact ⟨1, _, Nat.le_refl _, by omega, rfl, hl, hx3⟩
      case round =>
        obtain ⟨k, us, hk1, hk2, rfl, hown, hxr⟩ := hrel
        have hlt := hown.1.lt
        have hUL := upto_length (stir (i + 1)) k
        by_cases hki : k < i + 2
        · obtain ⟨j, rfl⟩ : ∃ j, k = j + 1 := ⟨k - 1, by omega⟩
          obtain ⟨ad, A5, k5, c5, rfl, hb5, hc5, hn5, hq5⟩ := hv.at_ (k := j) (upto_at (by omega))
          have HF5 := Lib.hid (Far.old hn5 fun g hg => (hlt g hg).1)
          have hc5r := (hxr.cell (p := ad.add j) (by rw [block_of_add]; exact hb5)).trans hc5
          have HU := Lib.hid hUL
          have HOWN := Lib.hid hown
          have HB1 := Lib.hid (stir_len (n := i) (k := j) (by omega))
          have HN5 := Lib.hid (hn5.below hxr)
          have hw1 : IntKind.i64.wrap (j : Int) = (j : Int) := wrap_in (by omega)
          have hw2 : IntKind.i64.wrap ((j : Int) + 1) = (j : Int) + 1 := wrap_in (by omega)
          have hb1 : (j : Int) < (i : Int) + 1 := by omega
          clear hn5 hown hUL hlt hc5
          by_cases hlast : j < i
          · have hb2 : (j : Int) < (i : Int) := by omega
            have hb3 : (0 : Int) ≤ (j : Int) + 1 := by omega
            obtain ⟨ad', A6, k6, c6, he, hb6, hc6, hn6, _⟩ := hv.at_ (k := j + 1) (upto_at (by omega))
            injection he with he
            subst he
            have hc6r := (hxr.cell (p := ad.add (j + 1)) (by rw [block_of_add]; exact hb6)).trans hc6
            have HN6 := Lib.hid (hn6.below hxr)
            have HB2 := Lib.hid (stir_len (n := i) (k := j + 1) (by omega))
            have HB3 := Lib.hid (len_small (x := j + 1) (by omega))
            have HB4 := Lib.hid (limbsOf_length_mul (j + 1) (stir i (j + 1)))
            clear hn6 hc6
            go_upto_region 11 with (fail)
            have hbx : (wr.alloc (.cells #[.slice A5 k5 c5] 26)).cell? ⟨wr.heap.size, 0, none⟩ = some (.slice A5 k5 c5) ∧ (wr.alloc (.cells #[.slice A5 k5 c5] 26)).frozen? ⟨wr.heap.size, 0, none⟩ = false := by simp [go_sem]
            have hbz : wr.heap.size < (wr.alloc (.cells #[.slice A5 k5 c5] 26)).heap.size := by simp
            have hxW : Ext wr (wr.alloc (.cells #[.slice A5 k5 c5] 26)) := ext_alloc (Below.refl _ _) _
            have hb6r : (ad.add (j + 1)).block < wr.heap.size := World.block_lt_of_cell? _ _ hc6r
            generalize wr.alloc (.cells #[.slice A5 k5 c5] 26) = WX at *
            have hc6x := (hxW.cell (p := ad.add (j + 1)) hb6r).trans hc6r
            have hc6y : WX.cell? ⟨ad.block, ad.off + (j + 1), none⟩ = some (.slice A6 k6 c6) := by simpa [Addr.add] using hc6x
            obtain ⟨hbc, hbf⟩ := hbx
            have HS := Lib.hid (fun (w' : World) (h : Ext WX w') => (⟨(h.cell (p := ⟨wr.heap.size, 0, none⟩) hbz).trans hbc, (h.frozen (p := ⟨wr.heap.size, 0, none⟩) hbz).trans hbf, (h.cell (p := ⟨ad.block, ad.off + (j + 1), none⟩) (World.block_lt_of_cell? _ _ hc6y)).trans hc6y⟩ : w'.cell? ⟨wr.heap.size, 0, none⟩ = some (.slice A5 k5 c5) ∧ w'.frozen? ⟨wr.heap.size, 0, none⟩ = false ∧ w'.cell? ⟨ad.block, ad.off + (j + 1), none⟩ = some (.slice A6 k6 c6)))
            have HXW := Lib.hid hxW
            clear hxW hc5r hc6r hb6r
            go_region_law (first
              | (go_simp; go_at_call 108; (with_reducible refine (cof_e (m := j + 1) (by omega) (by omega)).mono ?_); rintro e w7 ⟨A7, k7, c7, rfl, h7, x7, n7⟩; have e7 : Ext WX w7 := Ext.trans (by first | ((repeat first | assumption | exact Below.refl _ _ | refine ext_alloc ?_ _ | refine ext_drew ?_ | refine ext_set ?_ (by first | omega | (simp; done) | (simp; omega)) _); done) | fail) x7; obtain ⟨cc7, ff7, dd7⟩ := HS.out _ e7)
              | (go_simp; go_at_call 39; (with_reducible refine (mul_n (NatV.below (CanV.nat h7 (fit_small (by omega))) (by first | ((repeat first | assumption | exact Below.refl _ _ | refine ext_alloc ?_ _ | refine ext_drew ?_ | refine ext_set ?_ (by first | omega | (simp; done) | (simp; omega)) _); done) | fail)) (NatV.below (CanV.nat HN6.out (by unfold Fit; have := HB2.out; omega)) (Ext.trans HXW.out (by first | ((repeat first | assumption | exact Below.refl _ _ | refine ext_alloc ?_ _ | refine ext_drew ?_ | refine ext_set ?_ (by first | omega | (simp; done) | (simp; omega)) _); done) | fail))) (by have := HB2.out; have := HB3.out; omega)).mono ?_); rintro e w8 ⟨A8, k8, c8, rfl, h8, x8, n8⟩; have e8 : Ext WX w8 := Ext.trans (by first | ((repeat first | assumption | exact Below.refl _ _ | refine ext_alloc ?_ _ | refine ext_drew ?_ | refine ext_set ?_ (by first | omega | (simp; done) | (simp; omega)) _); done) | fail) x8; obtain ⟨cc8, ff8, dd8⟩ := HS.out _ e8)
              | (go_simp; go_at_call 51; (with_reducible refine (add_n (NatV.below (CanV.nat HN5.out (by unfold Fit; have := HB1.out; omega)) (Ext.trans HXW.out (by first | ((repeat first | assumption | exact Below.refl _ _ | refine ext_alloc ?_ _ | refine ext_drew ?_ | refine ext_set ?_ (by first | omega | (simp; done) | (simp; omega)) _); done) | fail))) (NatV.below (CanV.nat h8 (by unfold Fit; have := HB2.out; have := HB3.out; have := HB4.out; omega)) (by first | ((repeat first | assumption | exact Below.refl _ _ | refine ext_alloc ?_ _ | refine ext_drew ?_ | refine ext_set ?_ (by first | omega | (simp; done) | (simp; omega)) _); done) | fail)) (by have := HB1.out; omega) (by have := HB2.out; have := HB3.out; have := HB4.out; omega)).mono ?_); rintro e w9 ⟨A9, k9, c9, rfl, h9, x9, n9⟩; have e9 : Ext WX w9 := Ext.trans (by first | ((repeat first | assumption | exact Below.refl _ _ | refine ext_alloc ?_ _ | refine ext_drew ?_ | refine ext_set ?_ (by first | omega | (simp; done) | (simp; omega)) _); done) | fail) x9; obtain ⟨cc9, ff9, dd9⟩ := HS.out _ e9; have y8 := e8.size; have y9 := x9.size))
            all_goals
              have hcB : (w9.setCell ⟨wr.heap.size, 0, none⟩ (.slice A9 k9 c9)).cell? ⟨wr.heap.size, 0, none⟩ = some (.slice A9 k9 c9) := World.cell?_setCell_same _ _ _ cc9
              have hN9 := U32s.setNew h9 (n9.mono (B' := wr.heap.size + 1) (by first | omega | (simp; done) | (simp; omega))) (p := ⟨wr.heap.size, 0, none⟩) (Nat.lt_succ_self _) (.slice A9 k9 c9)
              have hxB : Ext wr (w9.setCell ⟨wr.heap.size, 0, none⟩ (.slice A9 k9 c9)) := ext_set (HXW.out.trans e9) (Nat.le_refl _) _
              have hn9 := n9.mono (B' := wr.heap.size + 1) (by first | omega | (simp; done) | (simp; omega))
              clear cc9 ff9 dd9 n9 h9 y8 y9 e9 x9
              generalize w9.setCell ⟨wr.heap.size, 0, none⟩ (.slice A9 k9 c9) = WB at *
              have hszB := hxB.size
              go_wp2_with (at_builtin; refine wpList_append_mine _ (by rfl) (.tmp 40) (.tmp 42) 121 (by rfl) wo.heap.size 26 i0 (.agg #[.slice none 0 0]) 1 24 Tryd.underlying121 hi hz0 hz1 hz2 rfl (by omega) _ _ _ (by rfl) (HOWN.out.ext (ext_alloc hxB _)).1 ⟨WB.heap.size, 0, none⟩ 1 1 [.slice A9 k9 c9] (by rfl) rfl (cell_one WB _ _) (by simp [Value.oneCell']) (by rw [HU.out]; unfold maxLen; omega) (by rw [HU.out]; omega) (by have := hxr.size; simp; omega) ?_; intro v10 w10 ho10 hg10 hw10)
              go_wp2
              go_roundw
              case rel => exact ⟨j + 2, us ++ [.slice A9 k9 c9], by omega, by omega, by go_num, by rw [upto_succ, stir_succ]; exact OwnN.grow HOWN.out (ext_alloc hxB _) (CanV.alloc hN9 _) (hn9.mono (by omega)) (Nat.le_trans hx.size hxr.size) ho10 hg10 hw10, OwnN.grow_ext HOWN.out hxr (ext_alloc hxB _) hg10⟩
              case measure => simp [intOf]; omega
          · obtain rfl : i = j := by omega
            have hxB : Ext wr (wr.alloc (.cells #[.slice A5 k5 c5] 26)) := ext_alloc (Below.refl _ _) _
            go_upto_region 12 with (fail)
            have hcB : (wr.alloc (.cells #[.slice A5 k5 c5] 26)).cell? ⟨wr.heap.size, 0, none⟩ = some (.slice A5 k5 c5) := by simp [go_sem]
            generalize wr.alloc (.cells #[.slice A5 k5 c5] 26) = WB at *
            have hszB := hxB.size
            go_wp2_with (at_builtin; refine wpList_append_mine _ (by rfl) (.tmp 40) (.tmp 42) 121 (by rfl) wo.heap.size 26 i0 (.agg #[.slice none 0 0]) 1 24 Tryd.underlying121 hi hz0 hz1 hz2 rfl (by omega) _ _ _ (by rfl) (HOWN.out.ext (ext_alloc hxB _)).1 ⟨WB.heap.size, 0, none⟩ 1 1 [.slice A5 k5 c5] (by rfl) rfl (cell_one WB _ _) (by simp [Value.oneCell']) (by rw [HU.out]; unfold maxLen; omega) (by rw [HU.out]; omega) (by have := hxr.size; simp; omega) ?_; intro v10 w10 ho10 hg10 hw10)
            go_wp2
            go_roundw
            case rel => exact ⟨i + 2, us ++ [.slice A5 k5 c5], by omega, by omega, by go_num, by rw [upto_succ, stir_top]; exact (HOWN.out.ext (ext_alloc hxB _)).push (CanV.alloc (HN5.out.below hxB) _) HF5.out hq5 ho10 hg10 hw10, OwnN.grow_ext HOWN.out hxr (ext_alloc hxB _) hg10⟩
            case measure => simp [intOf]; omega
        · obtain rfl : k = i + 2 := by omega
          have hN8 := hown.nats
          have hW8 : New w.heap.size u5 := fun b hb => Nat.le_trans hx.size (hown.1.lt b hb).1
          obtain ⟨A9, c9, rfl, _, _⟩ := hN8.form
          clear hown hlt
          rw [upto_length] at hN8 hW8 ⊢
          go_wp2
          go_roundw
          case rel => exact ⟨i + 1, A9, c9, by omega, by go_num, rfl, hN8, hx.trans hxr, hW8⟩
          case measure => simp [intOf]; omega
    · obtain rfl : i = n := by omega
      go_wp2
      go_ret
      exact ⟨A, c, ret_slice (by simp [upto_length]), by rw [upto_length]; exact hv, hx, by rw [upto_length]; exact hnw⟩

end Go.Proofs.YtnedgbebajhcpaaDoor

namespace Go.Proofs.YtnedgbebajhcpaaDoor
open Go.RowKit Num

def stI (n : Nat) (k : Int) : Nat := if k < 0 then 0 else stir n k.toNat
theorem stI_out {n : Nat} {k : Int} (h : k < 0 ∨ (n : Int) < k) : stI n k = 0 := by
  unfold stI
  split
  · rfl
  · exact stir_gt _ _ (by omega)
theorem stI_nat (n k : Nat) : stI n (k : Int) = stir n k := by unfold stI; rw [if_neg (by omega), Int.toNat_natCast]
def stV (n k : Int) : Nat := if 0 ≤ n ∧ n ≤ 64 then stI n.toNat k else 0

set_option maxHeartbeats 1000000 in
theorem cstir_bad {n k : Int} {w : World} (h' : n < 0 ∨ 64 < n) :
    Calls Tryd.prog 97 #[.int .i64 n, .int .i64 k] w (GivesT w 0 2) := by
  go_enter Tryd.func97, Tryd.ntmps97
  go_wp2_with (go_at_call 95; (with_reducible refine (within_f h').mono ?_); rintro e w1 ⟨rfl, rfl⟩)
  refine bodyPost_ret (v := .tuple #[.agg #[.slice none 0 0], .int .i64 2]) (by simp [results, Tryd.results97, go_sem]) rfl ?_
  exact GivesT.zero

set_option maxHeartbeats 1000000 in
theorem cstir_out {n : Nat} {k : Int} {w : World} (hn : n ≤ 64) (h' : k < 0 ∨ (n : Int) < k) :
    Calls Tryd.prog 97 #[.int .i64 n, .int .i64 k] w (GivesT w 0 0) := by
  have h1 : (0 : Int) ≤ n ∧ (n : Int) ≤ 64 := by omega
  go_enter Tryd.func97, Tryd.ntmps97
  go_wp2_with (first
    | (go_at_call 95; (with_reducible refine (within_t h1).mono ?_); rintro e w1 ⟨rfl, rfl⟩)
    | (go_at_call 95; (with_reducible refine (within_f h').mono ?_); rintro e w1 ⟨rfl, rfl⟩)
    | (go_at_call 108; (with_reducible refine (cof_e (m := 0) (by omega) (by omega)).mono ?_); rintro e w1 ⟨A1, k1, c1, rfl, y1, x1, n1⟩; obtain ⟨z1, zf1⟩ := box_new x1; have hE := ext_new x1; simp at n1))
  refine bodyPost_ret (v := .tuple #[.agg #[.slice A1 k1 c1], .int .i64 0]) (by simp [results, Tryd.results97, go_sem, World.cell?_setCell_same _ _ _ z1]) rfl ?_
  exact GivesT.box hE y1 n1

set_option maxHeartbeats 1000000 in
theorem cstir_in {n k : Nat} {w : World} (hn : n ≤ 64) (hk : k ≤ n) :
    Calls Tryd.prog 97 #[.int .i64 n, .int .i64 k] w (GivesT w (stir n k) 0) := by
  have h1 : (0 : Int) ≤ n ∧ (n : Int) ≤ 64 := by omega
  have h2 : (0 : Int) ≤ k ∧ (k : Int) ≤ n := by omega
  have h3 : (k : Int) < (n : Int) + 1 := by omega
  go_enter Tryd.func97, Tryd.ntmps97
  go_wp2_with (first
    | (go_at_call 95; (with_reducible refine (within_t h1).mono ?_); rintro e w1 ⟨rfl, rfl⟩)
    | (go_at_call 95; (with_reducible refine (within_t h2).mono ?_); rintro e w1 ⟨rfl, rfl⟩)
    | (go_at_call 109; (with_reducible refine (crow_n hn).mono ?_); rintro e w1 ⟨A0, c0, rfl, y1, x1, _⟩; rw [upto_length] at y1 ⊢; obtain ⟨z1, zf1⟩ := box_new x1; have hE := ext_new x1; obtain ⟨ad, A1, k1, c1, rfl, hb1, hc1, hn1, n1⟩ := y1.at_ (k := k) (upto_at (by omega)); have n1 := n1.mono (B' := w.heap.size + 1) (by simp)))
  refine bodyPost_ret (v := .tuple #[.agg #[.slice A1 k1 c1], .int .i64 0]) (by simp [results, Tryd.results97, go_sem, World.cell?_setCell_same _ _ _ z1]) rfl ?_
  exact GivesT.box hE hn1 n1

theorem cstir_any {n k : Int} {w : World} : Calls Tryd.prog 97 #[.int .i64 n, .int .i64 k] w (GivesT w (stV n k) (okE (0 ≤ n ∧ n ≤ 64))) := by
  unfold stV okE
  by_cases h : 0 ≤ n ∧ n ≤ 64
  · rw [if_pos h, if_pos h]
    obtain ⟨m, rfl⟩ : ∃ m : Nat, n = m := ⟨n.toNat, by omega⟩
    rw [Int.toNat_natCast]
    by_cases hk : k < 0 ∨ (m : Int) < k
    · rw [stI_out hk]; exact cstir_out (by omega) hk
    · obtain ⟨j, rfl⟩ : ∃ j : Nat, k = j := ⟨k.toNat, by omega⟩
      rw [stI_nat]; exact cstir_in (by omega) (by omega)
  · rw [if_neg h, if_neg h]; exact cstir_bad (by omega)

end Go.Proofs.YtnedgbebajhcpaaDoor

namespace Go.Proofs.YtnedgbebajhcpaaDoor
open Go.RowKit Num

def sjV (n k : Int) : Nat := if (0 ≤ n ∧ n ≤ 64) ∧ (0 ≤ k ∧ k ≤ 64) then stir n.toNat k.toNat * fact k.toNat else 0
def blV (n : Int) : Nat := if 0 ≤ n ∧ n ≤ 64 then sumTo (stir n.toNat) (n.toNat + 1) else 0

theorem sum_le {n : Nat} : ∀ k, k ≤ 65 → sumTo (stir n) k ≤ k * 66 ^ n := by
  intro k
  induction k with
  | zero => intro _; simp [sumTo]
  | succ k ih =>
    intro hk
    have h1 := ih (by omega)
    have h2 : stir n k ≤ 66 ^ n := Nat.le_trans (stir_le n k) (Nat.pow_le_pow_left (by omega) n)
    rw [sumTo_succ, Nat.add_mul]
    omega
theorem sum_len {n k : Nat} (hk : k ≤ 65) : (limbsOf (sumTo (stir n) k)).length ≤ n + 2 := by
  refine len_of_le_pow (n := n + 1) (b := 66) ?_ (by omega)
  have h1 := sum_le (n := n) k hk
  have h2 : k * 66 ^ n ≤ 66 * 66 ^ n := Nat.mul_le_mul_right _ (by omega)
  rw [Nat.pow_succ, Nat.mul_comm (66 ^ n)]
  omega

set_option maxHeartbeats 1000000 in
theorem csj_bad {n k : Int} {w : World} (h' : (n < 0 ∨ 64 < n) ∨ (0 ≤ n ∧ n ≤ 64) ∧ (k < 0 ∨ 64 < k)) :
    Calls Tryd.prog 79 #[.int .i64 n, .int .i64 k] w (GivesT w 0 2) := by
  rcases h' with h' | ⟨h1, h'⟩
  all_goals
    go_enter Tryd.func79, Tryd.ntmps79
    go_wp2_with (first | (go_at_call 95; (with_reducible refine (within_t h1).mono ?_); rintro e w1 ⟨rfl, rfl⟩) | (go_at_call 95; (with_reducible refine (within_f h').mono ?_); rintro e w1 ⟨rfl, rfl⟩))
    refine bodyPost_ret (v := .tuple #[.agg #[.slice none 0 0], .int .i64 2]) (by simp [results, Tryd.results79, go_sem]) rfl ?_
    exact GivesT.zero

theorem csj_st {n k : Nat} {w : World} (hn : n ≤ 64) : Calls Tryd.prog 97 #[.int .i64 n, .int .i64 k] w (GivesT w (stir n k) 0) := by
  by_cases h : n < k
  · rw [stir_gt _ _ h]; exact cstir_out hn (.inr (by omega))
  · exact cstir_in hn (by omega)
set_option maxHeartbeats 1000000 in
theorem csj_in {n k : Nat} {w : World} (hn : n ≤ 64) (hk : k ≤ 64) :
    Calls Tryd.prog 79 #[.int .i64 n, .int .i64 k] w (GivesT w (stir n k * fact k) 0) := by
  have h1 : (0 : Int) ≤ n ∧ (n : Int) ≤ 64 := by omega
  have h2 : (0 : Int) ≤ k ∧ (k : Int) ≤ 64 := by omega
  have HF := Lib.hid (fun w => falling_n (n := k) (k := k) (w := w) (by omega) (by omega))
  have HS := Lib.hid (fun w => csj_st (k := k) (w := w) hn)
  have HB1 := Lib.hid (stir_len (n := n) (k := k) (by omega))
  have HB2 := Lib.hid (fact_len k (by omega))
  rw [fall_self] at HF
  go_enter Tryd.func79, Tryd.ntmps79
  go_wp2_with (first
    | (go_at_call 95; (with_reducible refine (within_t h1).mono ?_); rintro e w1 ⟨rfl, rfl⟩)
    | (go_at_call 95; (with_reducible refine (within_t h2).mono ?_); rintro e w1 ⟨rfl, rfl⟩))
  refine (HS.out _).mono ?_
  rintro e w1 ⟨A1, k1, c1, rfl, y1, x1, n1⟩
  obtain ⟨z1, zf1⟩ := box_new x1
  have hE := ext_new x1
  have hs1 : w.heap.size < w1.heap.size := by have := x1.size; simp at this; omega
  clear x1 n1
  go_upto_region 4 with (fail)
  have p1 := y1.alloc (.cells #[.slice A1 k1 c1] 26)
  have hb : (w1.alloc (.cells #[.slice A1 k1 c1] 26)).cell? ⟨w1.heap.size, 0, none⟩ = some (.slice A1 k1 c1) := by simp [go_sem]
  have hE2 := ext_alloc hE (.cells #[.slice A1 k1 c1] 26)
  have z2 := ((ext_alloc (Below.refl _ w1) (.cells #[.slice A1 k1 c1] 26)).cell (p := ⟨w.heap.size, 0, none⟩) hs1).trans z1
  have zf2 := ((ext_alloc (Below.refl _ w1) (.cells #[.slice A1 k1 c1] 26)).frozen (p := ⟨w.heap.size, 0, none⟩) hs1).trans zf1
  have hs2 : w.heap.size < (w1.alloc (.cells #[.slice A1 k1 c1] 26)).heap.size := by simp; omega
  clear y1 hE z1 zf1
  generalize w1.alloc (.cells #[.slice A1 k1 c1] 26) = W1 at *
  have HW := Lib.hid (fun (w' : World) (h : Ext W1 w') => (⟨(h.cell (p := ⟨w1.heap.size, 0, none⟩) (World.block_lt_of_cell? _ _ hb)).trans hb, (h.cell (p := ⟨w.heap.size, 0, none⟩) hs2).trans z2, (h.frozen (p := ⟨w.heap.size, 0, none⟩) hs2).trans zf2⟩ : w'.cell? ⟨w1.heap.size, 0, none⟩ = some (.slice A1 k1 c1) ∧ w'.cell? ⟨w.heap.size, 0, none⟩ = some (.slice none 0 0) ∧ w'.frozen? ⟨w.heap.size, 0, none⟩ = false))
  have HN := Lib.hid (CanV.nat p1 (by have := HB1.out; unfold Fit; omega))
  go_region_law (first
    | (go_simp; go_at_call 98; (with_reducible refine (HF.out _).mono ?_); rintro e w5 ⟨A5, k5, c5, rfl, h5, x5, n5⟩; have e5 : Ext W1 w5 := Ext.trans (by first | ((repeat first | assumption | exact Below.refl _ _ | refine ext_alloc ?_ _ | refine ext_drew ?_ | refine ext_set ?_ (by first | omega | (simp; done) | (simp; omega)) _); done) | fail) x5; obtain ⟨cc5, dd5, ff5⟩ := HW.out _ e5)
    | (go_simp; go_at_call 39; (with_reducible refine (mul_n (NatV.below HN.out (by first | ((repeat first | assumption | exact Below.refl _ _ | refine ext_alloc ?_ _ | refine ext_drew ?_ | refine ext_set ?_ (by first | omega | (simp; done) | (simp; omega)) _); done) | fail)) (NatV.below (CanV.nat h5 (by have := HB2.out; unfold Fit; omega)) (by first | ((repeat first | assumption | exact Below.refl _ _ | refine ext_alloc ?_ _ | refine ext_drew ?_ | refine ext_set ?_ (by first | omega | (simp; done) | (simp; omega)) _); done) | fail)) (by have := HB1.out; have := HB2.out; omega)).mono ?_); rintro e w6 ⟨A6, k6, c6, rfl, h6, x6, n6⟩; have e6 : Ext W1 w6 := Ext.trans (by first | ((repeat first | assumption | exact Below.refl _ _ | refine ext_alloc ?_ _ | refine ext_drew ?_ | refine ext_set ?_ (by first | omega | (simp; done) | (simp; omega)) _); done) | fail) x6; obtain ⟨cc6, dd6, ff6⟩ := HW.out _ e6; have y6 := x6.size; have y5 := e5.size; (try simp at y6)))
  all_goals
    go_wp2
    refine bodyPost_ret (v := .tuple #[.agg #[.slice A6 k6 c6], .int .i64 0]) (by simp [results, Tryd.results79, go_sem, World.cell?_setCell_same _ _ _ dd6]) rfl ?_
    exact GivesT.box (hE2.trans e6) h6 (n6.mono (by omega))

theorem csj_any {n k : Int} {w : World} : Calls Tryd.prog 79 #[.int .i64 n, .int .i64 k] w (GivesT w (sjV n k) (okE ((0 ≤ n ∧ n ≤ 64) ∧ (0 ≤ k ∧ k ≤ 64)))) := by
  unfold sjV okE
  by_cases h : (0 ≤ n ∧ n ≤ 64) ∧ (0 ≤ k ∧ k ≤ 64)
  · rw [if_pos h, if_pos h]
    obtain ⟨m, rfl⟩ : ∃ m : Nat, n = m := ⟨n.toNat, by omega⟩
    obtain ⟨j, rfl⟩ : ∃ m : Nat, k = m := ⟨k.toNat, by omega⟩
    rw [Int.toNat_natCast, Int.toNat_natCast]
    exact csj_in (by omega) (by omega)
  · rw [if_neg h, if_neg h]; exact csj_bad (by omega)

end Go.Proofs.YtnedgbebajhcpaaDoor

namespace Go.Proofs.YtnedgbebajhcpaaDoor
open Go.RowKit Num

/-- The call says a number of digits, at most 15. -/
def Dig15 (x : Value) (w : World) : Prop :=
  Calls Tryd.prog 99 #[.agg #[x]] w (fun e w' => ∃ d : Nat, d ≤ 15 ∧ e = .returned (.int .i64 d) ∧ Ext w w')

theorem digits_small {x : Value} {n : Nat} {w : World} (hx : NatV w x n) (hn : n < 100) : Dig15 x w := by
  unfold Dig15
  have hX := hx.alloc (.cells #[x] 26)
  by_cases h0 : n = 0
  · subst h0
    go_enter Tryd.func99, Tryd.ntmps99
    go_wp2_with (go_at_call 58; (with_reducible refine (text_zero hX).mono ?_); rintro e w1 ⟨rfl, x1⟩)
    go_ret
    exact ⟨1, by omega, rfl, ext_new x1⟩
  · have hl : ((⟨(Lib.decDigits n).toArray⟩ : ByteArray).size) ≤ 15 := by
      show (Lib.decDigits n).toArray.size ≤ 15
      rw [List.size_toArray]; have := decDigits_len hn; omega
    have HT := Lib.hid (fun w (h : NatV w x n) => text_smallV h (by omega) hn)
    generalize (⟨(Lib.decDigits n).toArray⟩ : ByteArray) = s at *
    go_enter Tryd.func99, Tryd.ntmps99
    go_wp2_with (go_at_call 58; (with_reducible refine (HT.out _ hX).mono ?_); rintro e w1 ⟨rfl, x1⟩)
    go_ret
    exact ⟨s.size, by omega, rfl, ext_new x1⟩

theorem digits_tab {x : Value} {n : Nat} {w : World} (hx : NatV w x n) (hn : n < 1000000000) (htab : Tab10 w) : Dig15 x w := by
  by_cases h0 : n = 0
  · exact digits_small hx (by omega)
  · unfold Dig15
    have hX := hx.alloc (.cells #[x] 26)
    have hT := htab.ext (ext_alloc (Below.refl _ _) (.cells #[x] 26))
    have hl : ((⟨(Lib.decDigits n).toArray⟩ : ByteArray).size) ≤ 15 := by
      show (Lib.decDigits n).toArray.size ≤ 15
      rw [List.size_toArray]; have := digits_le9 hn; omega
    have HT := Lib.hid (text_oneV hX (by omega) hn hT)
    generalize (⟨(Lib.decDigits n).toArray⟩ : ByteArray) = s at *
    go_enter Tryd.func99, Tryd.ntmps99
    go_wp2_with (go_at_call 58; (with_reducible refine HT.out.mono ?_); rintro e w1 ⟨rfl, x1⟩)
    go_ret
    exact ⟨s.size, by omega, rfl, ext_new x1⟩

theorem and_one_256 : ∀ m : Fin 257, bits .and .i64 ((m.val : Nat) : Int) 1 = ((m.val % 2 : Nat) : Int) := by decide +kernel
theorem and_one {m : Nat} (h : m ≤ 256) : bits .and .i64 (m : Int) 1 = ((m % 2 : Nat) : Int) := and_one_256 ⟨m, by omega⟩

theorem pow_len {a p N : Nat} (ha : a < 1000000000) (hp : p ≤ N) (hN : N ≤ 256) : (limbsOf (a ^ p)).length ≤ 257 := by
  have := len_of_le_pow (x := a ^ p) (Nat.le_refl _) ha; omega

set_option maxHeartbeats 4000000 in
theorem pow_e {x : Value} {a N : Nat} {w : World} (hx : NatV w x a) (ha : a < 1000000000) (hN : N ≤ 256) (hD : ∀ w', Ext w w' → NatV w' x a → Dig15 x w') :
    Calls Tryd.prog 80 #[.agg #[x], .int .i64 N] w (GivesT w (a ^ N) 0) := by
  have HD := Lib.hid hD
  clear hD
  have h256 : decide (256 < (N : Int)) = false := by simp; omega
  have hneg : decide ((N : Int) < 0) = false := by simp
  have HA := Lib.hid ha
  clear ha
  unfold Dig15 at HD
  go_enter Tryd.func80, Tryd.ntmps80
  go_upto_region 1 with (fail)
  have hB0 : Boxes w ((w.alloc (.cells #[x] 26)).alloc (.cells #[.slice none 0 0] 26)) [[x], [.slice none 0 0]] := ((Boxes.nil_ w).alloc rfl [x] 26).alloc (by simp) [.slice none 0 0] 26
  generalize (w.alloc (.cells #[x] 26)).alloc (.cells #[.slice none 0 0] 26) = W0 at *
  obtain ⟨cx, fx⟩ : W0.cell? ⟨w.heap.size, 0, none⟩ = some x ∧ W0.frozen? ⟨w.heap.size, 0, none⟩ = false := hB0.cell 0 _ 0 _ rfl rfl
  obtain ⟨cz, fz⟩ : W0.cell? ⟨w.heap.size + 1, 0, none⟩ = some (.slice none 0 0) ∧ W0.frozen? ⟨w.heap.size + 1, 0, none⟩ = false := hB0.cell 1 _ 0 _ rfl rfl
  have hE0 := hB0.ext
  have hX0 := hx.below hE0
  have hs0 : w.heap.size + 2 ≤ W0.heap.size := hB0.size
  clear hB0
  go_wp2_with fail
  refine (HD.out _ hE0 hX0).mono ?_
  rintro e w1 ⟨d, hd, rfl, x1⟩
  have cx1 := (x1.cell (p := ⟨w.heap.size, 0, none⟩) (World.block_lt_of_cell? _ _ cx)).trans cx
  have hX1 := hX0.below x1
  have hdN : (d : Int) * N ≤ 3840 := by
    have : d * N ≤ 15 * 256 := Nat.mul_le_mul hd hN
    rw [← Int.natCast_mul]; omega
  have hd0 : 0 ≤ (d : Int) * N := by rw [← Int.natCast_mul]; omega
  obtain ⟨t, ht⟩ : ∃ t : Int, (d : Int) * N = t := ⟨_, rfl⟩
  rw [ht] at hdN hd0
  have hs1 : w.heap.size + 2 ≤ w1.heap.size := Nat.le_trans hs0 x1.size
  have cy1 := (World.cell?_alloc_lt w1 (.cells #[.int .u32 1] 90) ⟨w.heap.size, 0, none⟩ (by show w.heap.size < _; omega)).trans cx1
  go_wp2_with fail
  refine (limbs_n (hX1.alloc _)).mono ?_
  rintro e w2 ⟨v2, rfl, h2, x2, n2⟩
  have hone : CanV w2 (.slice (some ⟨w1.heap.size, 0, none⟩) 1 1) 1 := by
    have h0 := World.ownsRow_lit (base := w1.heap.size) (e := 90) (size := 1) w1 #[.int .u32 1] 1 (Nat.le_refl _) (by unfold maxLen; omega) rfl
    have h1 := U32s.of_own (xs := [1]) (by simpa [u32s] using h0) (Nat.le_refl _) (by omega)
    unfold CanV
    rw [limbsOf_one (by omega) (by omega)]
    exact U32s.below h1 x2
  have hx2 : Ext W0 w2 := x1.trans (ext_new x2)
  have hnone : New (w.heap.size + 2) (.slice (some ⟨w1.heap.size, 0, none⟩) 1 1) := New.at_ hs1
  clear HD x1 cx1 cy1 x2 n2 cx fx hX1 hX0
  go_wp2
  go_loopw [1, 6, 7] (fun nv ov sv wr => ∃ m p q : Nat, nv = .int .i64 m ∧ m ≤ 256 ∧ Hid (p + q * m = N) ∧ CanV wr ov (a ^ p) ∧ CanV wr sv (a ^ q) ∧ New (w.heap.size + 2) ov ∧ Ext W0 wr) (fun nv _ _ _ => (intOf nv).toNat)
  case atStart => exact ⟨N, 0, 1, rfl, hN, by rw [Nat.one_mul, Nat.zero_add]; exact Lib.hid rfl, by rw [Nat.pow_zero]; exact hone, by rw [Nat.pow_one]; exact h2, hnone, hx2⟩
  case round =>
    obtain ⟨m, p, q, rfl, hm, hpq, ho, hs, no, hx⟩ := hrel
    by_cases hm0 : 0 < m
    · have HP1 := Lib.hid (show (limbsOf (a ^ p)).length ≤ 257 from by
        have h1 := hpq.out
        exact pow_len HA.out (show p ≤ N by omega) hN)
      have HP2 := Lib.hid (show (limbsOf (a ^ q)).length ≤ 257 from by
        have h1 := hpq.out
        exact pow_len HA.out (show q ≤ N by have := Nat.le_mul_of_pos_right q hm0; omega) hN)
      have HB := Lib.hid (and_one hm)
      have HEXP := Lib.hid (show ∀ r, m = 2 * (m / 2) + r → (a ^ q * a ^ q) = a ^ (2 * q) ∧ 2 * q * (m / 2) + q * r = q * m from by
        intro r hr
        refine ⟨by rw [← Nat.pow_add, show q + q = 2 * q from by omega], ?_⟩
        conv => rhs; rw [hr, Nat.mul_add, ← Nat.mul_assoc, Nat.mul_comm q 2])
      have HMD := Lib.hid (show (m : Int) / 2 = ((m / 2 : Nat) : Int) from by omega)
      rcases Nat.mod_two_eq_zero_or_one m with h2 | h2
      · have hb : (bits .and .i64 (m : Int) 1 != 0) = false := by rw [HB.out, h2]; rfl
        have H2 := Lib.hid h2
        have hm1 : (1 : Int) < m := by omega
        clear h2
        go_wp2_with fail
        refine (times_any hs hs (by have := HP2.out; omega)).mono ?_
        rintro e w3 ⟨v3, rfl, h3, x3, n3⟩
        go_wp2
        go_roundw
        case rel =>
          obtain ⟨e1, e2⟩ := HEXP.out 0 (by have := H2.out; omega)
          rw [e1] at h3
          exact ⟨m / 2, p, 2 * q, by rw [HMD.out], by omega, Lib.hid (by have := hpq.out; omega), ho.below x3, h3, no, hx.trans x3⟩
        case measure => simp [intOf]; omega
      · have hb : (bits .and .i64 (m : Int) 1 != 0) = true := by rw [HB.out, h2]; rfl
        have H2 := Lib.hid h2
        clear h2
        go_wp2_with fail
        refine (times_any ho hs (by have := HP1.out; have := HP2.out; omega)).mono ?_
        rintro e w3 ⟨v3, rfl, h3, x3, n3⟩
        have n3' := n3.mono (Nat.le_trans hs0 hx.size)
        rw [← Nat.pow_add] at h3
        by_cases hm1 : 1 < m
        · go_wp2_with fail
          refine (times_any (hs.below x3) (hs.below x3) (by have := HP2.out; omega)).mono ?_
          rintro e w4 ⟨v4, rfl, h4, x4, n4⟩
          go_wp2
          go_roundw
          case rel =>
            obtain ⟨e1, e2⟩ := HEXP.out 1 (by have := H2.out; omega)
            rw [e1] at h4
            exact ⟨m / 2, p + q, 2 * q, by rw [HMD.out], by omega, Lib.hid (by have := hpq.out; omega), h3.below x4, h4, n3', (hx.trans x3).trans x4⟩
          case measure => simp [intOf]; omega
        · go_wp2
          go_roundw
          case rel =>
            obtain ⟨e1, e2⟩ := HEXP.out 1 (by have := H2.out; omega)
            exact ⟨m / 2, p + q, q, by rw [HMD.out], by omega, Lib.hid (by have := hpq.out; rw [show m / 2 = 0 from by omega] at *; omega), h3, hs.below x3, n3', hx.trans x3⟩
          case measure => simp [intOf]; omega
    · obtain rfl : m = 0 := by omega
      have HPN := Lib.hid (show p = N from by have := hpq.out; omega)
      clear hpq
      have cz0 := (hx.cell (p := ⟨w.heap.size + 1, 0, none⟩) (World.block_lt_of_cell? _ _ cz)).trans cz
      have fz0 := (hx.frozen (p := ⟨w.heap.size + 1, 0, none⟩) (World.block_lt_of_cell? _ _ cz)).trans fz
      go_wp2_with fail
      refine (made_c ho no).mono ?_
      rintro e w3 ⟨A3, k3, c3, rfl, h3, x3, n3⟩
      have cz3 := (x3.cell (p := ⟨w.heap.size + 1, 0, none⟩) (World.block_lt_of_cell? _ _ cz0)).trans cz0
      have fz3 := (x3.frozen (p := ⟨w.heap.size + 1, 0, none⟩) (World.block_lt_of_cell? _ _ cz0)).trans fz0
      clear cz0 fz0 cz fz
      go_wp2
      refine bodyPost_ret (v := .tuple #[.agg #[.slice A3 k3 c3], .int .i64 0]) (by simp [results, Tryd.results80, go_sem, World.cell?_setCell_same _ _ _ cz3]) rfl ?_
      rw [HPN.out] at h3
      exact ⟨_, _, _, rfl, U32s.setNew h3 n3 (by show w.heap.size + 1 < _; omega) _, (hE0.trans (hx.trans x3)).setCell (by show w.heap.size ≤ w.heap.size + 1; omega) _, n3.mono (by omega)⟩

theorem pow_n {x : Value} {a N : Nat} {w : World} (hx : NatV w x a) (ha : a < 1000000000) (hN : N ≤ 256) (hD : ∀ w', NatV w' x a → Dig15 x w') :
    Calls Tryd.prog 80 #[.agg #[x], .int .i64 N] w (GivesT w (a ^ N) 0) := pow_e hx ha hN fun w' _ h => hD w' h


end Go.Proofs.YtnedgbebajhcpaaDoor
