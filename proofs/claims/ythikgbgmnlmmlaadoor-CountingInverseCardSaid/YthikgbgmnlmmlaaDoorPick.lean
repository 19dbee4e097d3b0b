/- ref03.Binomial, counting.Stirling, ref03.Stirling: an element of a row. -/
import Derived.Test.YthikgbgmnlmmlaaDoorStir
set_option linter.unusedVariables false
set_option linter.unusedSimpArgs false
set_option maxRecDepth 100000
namespace Go.Proofs.YthikgbgmnlmmlaaDoor
open Go.RowKit Num

def stI (n : Nat) (k : Int) : Nat := if k < 0 then 0 else stir n k.toNat
theorem stI_out {n : Nat} {k : Int} (h : k < 0 ∨ (n : Int) < k) : stI n k = 0 := by
  unfold stI
  split
  · rfl
  · exact stir_gt _ _ (by omega)
theorem stI_nat (n k : Nat) : stI n (k : Int) = stir n k := by unfold stI; rw [if_neg (by omega), Int.toNat_natCast]
def stV (n k : Int) : Nat := if 0 ≤ n ∧ n ≤ 64 then stI n.toNat k else 0

set_option maxHeartbeats 1000000 in
theorem rbin_bad {n k : Int} {w : World} (h' : n < 0 ∨ 300 < n) :
    Calls Tryd.prog 14 #[.int .i64 n, .int .i64 k] w (GivesT w 0 2) := by
  rcases h' with h' | h'
  all_goals
    go_enter Tryd.func14, Tryd.ntmps14
    go_wp2
    refine bodyPost_ret (v := .tuple #[.agg #[.slice none 0 0], .int .i64 2]) (by simp [results, Tryd.results14, go_sem]) rfl ?_
    exact GivesT.zero

set_option maxHeartbeats 1000000 in
theorem rbin_out {n : Nat} {k : Int} {w : World} (hn : n ≤ 300) (h' : k < 0 ∨ (n : Int) < k) :
    Calls Tryd.prog 14 #[.int .i64 n, .int .i64 k] w (GivesT w 0 0) := by
  rcases h' with h' | h'
  all_goals
    go_enter Tryd.func14, Tryd.ntmps14
    go_wp2
    refine bodyPost_ret (v := .tuple #[.agg #[.slice none 0 0], .int .i64 0]) (by simp [results, Tryd.results14, go_sem]) rfl ?_
    exact GivesT.zero

set_option maxHeartbeats 1000000 in
theorem rbin_in {n k : Nat} {w : World} (hn : n ≤ 300) (hk : k ≤ n) :
    Calls Tryd.prog 14 #[.int .i64 n, .int .i64 k] w (GivesT w (chs n k) 0) := by
  have h1 : (0 : Int) ≤ n ∧ (n : Int) ≤ 300 := by omega
  have h2 : (0 : Int) ≤ k ∧ (k : Int) ≤ n := by omega
  have h3 : (k : Int) < (n : Int) + 1 := by omega
  go_enter Tryd.func14, Tryd.ntmps14
  go_wp2_with (first
    | (go_at_call 42; (with_reducible refine (rrow_n hn).mono ?_); rintro e w1 ⟨A0, c0, rfl, y1, x1, _⟩; rw [upto_length] at y1 ⊢; obtain ⟨z1, zf1⟩ := box_new x1; have hE := ext_new x1; obtain ⟨ad, A1, k1, c1, rfl, hb1, hc1, hn1, n1⟩ := y1.at_ (k := k) (upto_at (by omega)); have n1 := n1.mono (B' := w.heap.size + 1) (by simp)))
  refine bodyPost_ret (v := .tuple #[.agg #[.slice A1 k1 c1], .int .i64 0]) (by simp [results, Tryd.results14, go_sem, World.cell?_setCell_same _ _ _ z1]) rfl ?_
  exact GivesT.box hE hn1 n1

theorem rbin_any {n k : Int} {w : World} : Calls Tryd.prog 14 #[.int .i64 n, .int .i64 k] w (GivesT w (binV n k) (okE (0 ≤ n ∧ n ≤ 300))) := by
  unfold binV okE
  by_cases h : 0 ≤ n ∧ n ≤ 300
  · rw [if_pos h, if_pos h]
    obtain ⟨m, rfl⟩ : ∃ m : Nat, n = m := ⟨n.toNat, by omega⟩
    rw [Int.toNat_natCast]
    by_cases hk : k < 0 ∨ (m : Int) < k
    · rw [binI_out hk]; exact rbin_out (by omega) hk
    · obtain ⟨j, rfl⟩ : ∃ j : Nat, k = j := ⟨k.toNat, by omega⟩
      rw [binI_nat]; exact rbin_in (by omega) (by omega)
  · rw [if_neg h, if_neg h]; exact rbin_bad (by omega)

set_option maxHeartbeats 1000000 in
theorem cstir_bad {n k : Int} {w : World} (h' : n < 0 ∨ 64 < n) :
    Calls Tryd.prog 19 #[.int .i64 n, .int .i64 k] w (GivesT w 0 2) := by
  go_enter Tryd.func19, Tryd.ntmps19
  go_wp2_with (go_at_call 40; (with_reducible refine (within_f h').mono ?_); rintro e w1 ⟨rfl, rfl⟩)
  refine bodyPost_ret (v := .tuple #[.agg #[.slice none 0 0], .int .i64 2]) (by simp [results, Tryd.results19, go_sem]) rfl ?_
  exact GivesT.zero

set_option maxHeartbeats 1000000 in
theorem cstir_out {n : Nat} {k : Int} {w : World} (hn : n ≤ 64) (h' : k < 0 ∨ (n : Int) < k) :
    Calls Tryd.prog 19 #[.int .i64 n, .int .i64 k] w (GivesT w 0 0) := by
  have h1 : (0 : Int) ≤ n ∧ (n : Int) ≤ 64 := by omega
  go_enter Tryd.func19, Tryd.ntmps19
  go_wp2_with (first
    | (go_at_call 40; (with_reducible refine (within_t h1).mono ?_); rintro e w1 ⟨rfl, rfl⟩)
    | (go_at_call 40; (with_reducible refine (within_f h').mono ?_); rintro e w1 ⟨rfl, rfl⟩)
    | (go_at_call 43; (with_reducible refine (cof_e (m := 0) (by omega) (by omega)).mono ?_); rintro e w1 ⟨A1, k1, c1, rfl, y1, x1, n1⟩; obtain ⟨z1, zf1⟩ := box_new x1; have hE := ext_new x1; simp at n1))
  refine bodyPost_ret (v := .tuple #[.agg #[.slice A1 k1 c1], .int .i64 0]) (by simp [results, Tryd.results19, go_sem, World.cell?_setCell_same _ _ _ z1]) rfl ?_
  exact GivesT.box hE y1 n1

set_option maxHeartbeats 1000000 in
theorem cstir_in {n k : Nat} {w : World} (hn : n ≤ 64) (hk : k ≤ n) :
    Calls Tryd.prog 19 #[.int .i64 n, .int .i64 k] w (GivesT w (stir n k) 0) := by
  have h1 : (0 : Int) ≤ n ∧ (n : Int) ≤ 64 := by omega
  have h2 : (0 : Int) ≤ k ∧ (k : Int) ≤ n := by omega
  have h3 : (k : Int) < (n : Int) + 1 := by omega
  go_enter Tryd.func19, Tryd.ntmps19
  go_wp2_with (first
    | (go_at_call 40; (with_reducible refine (within_t h1).mono ?_); rintro e w1 ⟨rfl, rfl⟩)
    | (go_at_call 40; (with_reducible refine (within_t h2).mono ?_); rintro e w1 ⟨rfl, rfl⟩)
    | (go_at_call 45; (with_reducible refine (crow_n hn).mono ?_); rintro e w1 ⟨A0, c0, rfl, y1, x1, _⟩; rw [upto_length] at y1 ⊢; obtain ⟨z1, zf1⟩ := box_new x1; have hE := ext_new x1; obtain ⟨ad, A1, k1, c1, rfl, hb1, hc1, hn1, n1⟩ := y1.at_ (k := k) (upto_at (by omega)); have n1 := n1.mono (B' := w.heap.size + 1) (by simp)))
  refine bodyPost_ret (v := .tuple #[.agg #[.slice A1 k1 c1], .int .i64 0]) (by simp [results, Tryd.results19, go_sem, World.cell?_setCell_same _ _ _ z1]) rfl ?_
  exact GivesT.box hE hn1 n1

theorem cstir_any {n k : Int} {w : World} : Calls Tryd.prog 19 #[.int .i64 n, .int .i64 k] w (GivesT w (stV n k) (okE (0 ≤ n ∧ n ≤ 64))) := by
  unfold stV okE
  by_cases h : 0 ≤ n ∧ n ≤ 64
  · rw [if_pos h, if_pos h]
    obtain ⟨m, rfl⟩ : ∃ m : Nat, n = m := ⟨n.toNat, by omega⟩
    rw [Int.toNat_natCast]
    by_cases hk : k < 0 ∨ (m : Int) < k
    · rw [stI_out hk]; exact cstir_out (by omega) hk
    · obtain ⟨j, rfl⟩ : ∃ j : Nat, k = j := ⟨k.toNat, by omega⟩
      rw [stI_nat]; exact cstir_in (by omega) (by omega)
  · rw [if_neg h, if_neg h]; exact cstir_bad (by omega)

set_option maxHeartbeats 1000000 in
theorem rstir_bad {n k : Int} {w : World} (h' : n < 0 ∨ 64 < n) :
    Calls Tryd.prog 30 #[.int .i64 n, .int .i64 k] w (GivesT w 0 2) := by
  rcases h' with h' | h'
  all_goals
    go_enter Tryd.func30, Tryd.ntmps30
    go_wp2
    refine bodyPost_ret (v := .tuple #[.agg #[.slice none 0 0], .int .i64 2]) (by simp [results, Tryd.results30, go_sem]) rfl ?_
    exact GivesT.zero

set_option maxHeartbeats 1000000 in
theorem rstir_out {n : Nat} {k : Int} {w : World} (hn : n ≤ 64) (h' : k < 0 ∨ (n : Int) < k) :
    Calls Tryd.prog 30 #[.int .i64 n, .int .i64 k] w (GivesT w 0 0) := by
  rcases h' with h' | h'
  all_goals
    go_enter Tryd.func30, Tryd.ntmps30
    go_wp2
    refine bodyPost_ret (v := .tuple #[.agg #[.slice none 0 0], .int .i64 0]) (by simp [results, Tryd.results30, go_sem]) rfl ?_
    exact GivesT.zero

set_option maxHeartbeats 1000000 in
theorem rstir_in {n k : Nat} {w : World} (hn : n ≤ 64) (hk : k ≤ n) :
    Calls Tryd.prog 30 #[.int .i64 n, .int .i64 k] w (GivesT w (stir n k) 0) := by
  have h1 : (0 : Int) ≤ n ∧ (n : Int) ≤ 64 := by omega
  have h2 : (0 : Int) ≤ k ∧ (k : Int) ≤ n := by omega
  have h3 : (k : Int) < (n : Int) + 1 := by omega
  go_enter Tryd.func30, Tryd.ntmps30
  go_wp2_with (first
    | (go_at_call 54; (with_reducible refine (rparts_n hn).mono ?_); rintro e w1 ⟨A0, c0, rfl, y1, x1, _⟩; rw [upto_length] at y1 ⊢; obtain ⟨z1, zf1⟩ := box_new x1; have hE := ext_new x1; obtain ⟨ad, A1, k1, c1, rfl, hb1, hc1, hn1, n1⟩ := y1.at_ (k := k) (upto_at (by omega)); have n1 := n1.mono (B' := w.heap.size + 1) (by simp)))
  refine bodyPost_ret (v := .tuple #[.agg #[.slice A1 k1 c1], .int .i64 0]) (by simp [results, Tryd.results30, go_sem, World.cell?_setCell_same _ _ _ z1]) rfl ?_
  exact GivesT.box hE hn1 n1

theorem rstir_any {n k : Int} {w : World} : Calls Tryd.prog 30 #[.int .i64 n, .int .i64 k] w (GivesT w (stV n k) (okE (0 ≤ n ∧ n ≤ 64))) := by
  unfold stV okE
  by_cases h : 0 ≤ n ∧ n ≤ 64
  · rw [if_pos h, if_pos h]
    obtain ⟨m, rfl⟩ : ∃ m : Nat, n = m := ⟨n.toNat, by omega⟩
    rw [Int.toNat_natCast]
    by_cases hk : k < 0 ∨ (m : Int) < k
    · rw [stI_out hk]; exact rstir_out (by omega) hk
    · obtain ⟨j, rfl⟩ : ∃ j : Nat, k = j := ⟨k.toNat, by omega⟩
      rw [stI_nat]; exact rstir_in (by omega) (by omega)
  · rw [if_neg h, if_neg h]; exact rstir_bad (by omega)

end Go.Proofs.YthikgbgmnlmmlaaDoor
