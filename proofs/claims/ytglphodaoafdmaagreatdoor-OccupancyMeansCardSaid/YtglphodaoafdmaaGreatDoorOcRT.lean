/- The reference's tail, Valid, AtMost, AtLeast. -/
import Derived.Test.YtglphodaoafdmaaGreatDoorOcR
import Derived.Test.YtglphodaoafdmaaGreatDoorOcV
set_option linter.unusedVariables false
set_option linter.unusedSimpArgs false
set_option maxRecDepth 100000
namespace Go.Proofs.YtglphodaoafdmaaGreatDoor
open Go.RowKit Num

def tailF (n D : Nat) (low high : Int) (i : Nat) : Nat := if low ≤ (i : Int) ∧ (i : Int) ≤ high then occ n D i else 0
theorem tailF_le (n D : Nat) (low high : Int) (i : Nat) : tailF n D low high i ≤ occ n D i := by unfold tailF; split <;> omega
theorem sumTo_le {f g : Nat → Nat} {n : Nat} (h : ∀ k, k < n → f k ≤ g k) : sumTo f n ≤ sumTo g n := by
  induction n with
  | zero => exact Nat.le_refl _
  | succ n ih => rw [sumTo_succ, sumTo_succ]; exact Nat.add_le_add (ih fun k hk => h k (by omega)) (h n (by omega))
theorem tail_len {n D k : Nat} {low high : Int} (hn : n ≤ 30) (hD : D ≤ 60) (hk : k ≤ n + 1) : (limbsOf (sumTo (tailF n D low high) k)).length ≤ 32 := by
  have h1 : sumTo (tailF n D low high) k ≤ D ^ n := by
    rw [← occ_sum n D]
    exact Nat.le_trans (sumTo_le fun j _ => tailF_le n D low high j) (sumTo_mono hk)
  have h2 := limbsOf_length_mono h1
  have h3 := all_small hn hD
  omega

theorem rin_n {n low high : Int} {w : World} (b : Bool) (hb : b = (decide (low ≤ n) && decide (n ≤ high))) : Calls Tryz.prog 27 #[.int .i64 n, .int .i64 low, .int .i64 high] w (fun e w' => e = .returned (.bool b) ∧ w' = w) := by
  by_cases h1 : low ≤ n
  · by_cases h2 : n ≤ high
    · obtain rfl : b = true := by rw [hb]; simp [h1, h2]
      clear hb
      go_enter Tryz.func27, Tryz.ntmps27
      go_wp2
      go_ret
      exact ⟨rfl, rfl⟩
    · obtain rfl : b = false := by rw [hb]; simp [h2]
      clear hb
      go_enter Tryz.func27, Tryz.ntmps27
      go_wp2
      go_ret
      exact ⟨rfl, rfl⟩
  · obtain rfl : b = false := by rw [hb]; simp [h1]
    clear hb
    go_enter Tryz.func27, Tryz.ntmps27
    go_wp2
    go_ret
    exact ⟨rfl, rfl⟩
theorem rin_t {n low high : Int} {w : World} (h1 : low ≤ n) (h2 : n ≤ high) : Calls Tryz.prog 27 #[.int .i64 n, .int .i64 low, .int .i64 high] w (fun e w' => e = .returned (.bool true) ∧ w' = w) := rin_n true (by simp [h1, h2])
theorem rin_f {n low high : Int} {w : World} (h : n < low ∨ high < n) : Calls Tryz.prog 27 #[.int .i64 n, .int .i64 low, .int .i64 high] w (fun e w' => e = .returned (.bool false) ∧ w' = w) := rin_n false (by
  symm
  rw [Bool.and_eq_false_iff]
  rcases h with h | h
  · exact .inl (decide_eq_false (by omega))
  · exact .inr (decide_eq_false (by omega)))
theorem rvalid_t {n D : Int} {w : World} (h1 : 0 ≤ n ∧ n ≤ 30) (h2 : 1 ≤ D ∧ D ≤ 60) : Calls Tryz.prog 23 #[.int .i64 n, .int .i64 D] w (fun e w' => e = .returned (.bool true) ∧ w' = w) := by
  go_enter Tryz.func23, Tryz.ntmps23
  go_wp2_with (go_at_call 27; (with_reducible refine (rin_t (by omega) (by omega)).mono ?_); rintro e w1 ⟨rfl, rfl⟩)
  go_ret
  exact ⟨rfl, rfl⟩
theorem rvalid_f {n D : Int} {w : World} (h : ¬ OccIn n D) : Calls Tryz.prog 23 #[.int .i64 n, .int .i64 D] w (fun e w' => e = .returned (.bool false) ∧ w' = w) := by
  unfold OccIn at h
  by_cases hn : 0 ≤ n ∧ n ≤ 30
  · have hD : D < 1 ∨ 60 < D := by omega
    go_enter Tryz.func23, Tryz.ntmps23
    go_wp2_with (first
      | (go_at_call 27; (with_reducible refine (rin_t (n := n) (by omega) (by omega)).mono ?_); rintro e w1 ⟨rfl, rfl⟩)
      | (go_at_call 27; (with_reducible refine (rin_f (n := D) (by omega)).mono ?_); rintro e w1 ⟨rfl, rfl⟩))
    go_ret
    exact ⟨rfl, rfl⟩
  · have hD : n < 0 ∨ 30 < n := by omega
    go_enter Tryz.func23, Tryz.ntmps23
    go_wp2_with (go_at_call 27; (with_reducible refine (rin_f (n := n) (by omega)).mono ?_); rintro e w1 ⟨rfl, rfl⟩)
    go_ret
    exact ⟨rfl, rfl⟩

end Go.Proofs.YtglphodaoafdmaaGreatDoor
