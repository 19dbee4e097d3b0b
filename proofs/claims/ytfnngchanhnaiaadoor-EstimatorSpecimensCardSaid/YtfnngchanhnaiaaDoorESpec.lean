/- specimen.Valid, base.Specimen. -/
import Derived.Test.YtfnngchanhnaiaaDoorSpec
import Derived.Test.YtfnngchanhnaiaaDoorRIn
set_option linter.unusedVariables false
set_option linter.unusedSimpArgs false
set_option maxRecDepth 100000
namespace Go.Proofs.YtfnngchanhnaiaaDoor
open Go.RowKit Num

theorem sin_n {n low high : Int} {w : World} (b : Bool) (hb : b = (decide (low ≤ n) && decide (n ≤ high))) : Calls Tryd.prog 35 #[.int .i64 n, .int .i64 low, .int .i64 high] w (fun e w' => e = .returned (.bool b) ∧ w' = w) := by
  by_cases h1 : low ≤ n
  · by_cases h2 : n ≤ high
    · obtain rfl : b = true := by rw [hb]; simp [h1, h2]
      clear hb
      go_enter Tryd.func35, Tryd.ntmps35
      go_wp2
      go_ret
      exact ⟨rfl, rfl⟩
    · obtain rfl : b = false := by rw [hb]; simp [h2]
      clear hb
      go_enter Tryd.func35, Tryd.ntmps35
      go_wp2
      go_ret
      exact ⟨rfl, rfl⟩
  · obtain rfl : b = false := by rw [hb]; simp [h1]
    clear hb
    go_enter Tryd.func35, Tryd.ntmps35
    go_wp2
    go_ret
    exact ⟨rfl, rfl⟩
theorem sin_t {n low high : Int} {w : World} (h1 : low ≤ n) (h2 : n ≤ high) : Calls Tryd.prog 35 #[.int .i64 n, .int .i64 low, .int .i64 high] w (fun e w' => e = .returned (.bool true) ∧ w' = w) := sin_n true (by simp [h1, h2])
theorem sin_f {n low high : Int} {w : World} (h : n < low ∨ high < n) : Calls Tryd.prog 35 #[.int .i64 n, .int .i64 low, .int .i64 high] w (fun e w' => e = .returned (.bool false) ∧ w' = w) := sin_n false (by
  symm
  rw [Bool.and_eq_false_iff]
  rcases h with h | h
  · exact .inl (decide_eq_false (by omega))
  · exact .inr (decide_eq_false (by omega)))

theorem rnum_t {n : Int} {w : World} (h1 : 1 ≤ n) (h2 : n ≤ 999) : Calls Tryd.prog 36 #[.int .i64 n] w (fun e w' => e = .returned (.bool true) ∧ w' = w) := by
  go_enter Tryd.func36, Tryd.ntmps36
  go_wp2_with (go_at_call 18; (with_reducible refine (rin_t h1 h2).mono ?_); rintro _ w1 ⟨rfl, hw1⟩; obtain rfl : w = w1 := hw1.symm)
  go_ret
  exact ⟨rfl, rfl⟩
theorem rnum_f {n : Int} {w : World} (h : n < 1 ∨ 999 < n) : Calls Tryd.prog 36 #[.int .i64 n] w (fun e w' => e = .returned (.bool false) ∧ w' = w) := by
  go_enter Tryd.func36, Tryd.ntmps36
  go_wp2_with (go_at_call 18; (with_reducible refine (rin_f h).mono ?_); rintro _ w1 ⟨rfl, hw1⟩; obtain rfl : w = w1 := hw1.symm)
  go_ret
  exact ⟨rfl, rfl⟩
theorem rid_t {n : Int} {w : World} (h1 : 1 ≤ n) (h2 : n ≤ 9999) : Calls Tryd.prog 37 #[.int .i64 n] w (fun e w' => e = .returned (.bool true) ∧ w' = w) := by
  go_enter Tryd.func37, Tryd.ntmps37
  go_wp2_with (go_at_call 18; (with_reducible refine (rin_t h1 h2).mono ?_); rintro _ w1 ⟨rfl, hw1⟩; obtain rfl : w = w1 := hw1.symm)
  go_ret
  exact ⟨rfl, rfl⟩
theorem rid_f {n : Int} {w : World} (h : n < 1 ∨ 9999 < n) : Calls Tryd.prog 37 #[.int .i64 n] w (fun e w' => e = .returned (.bool false) ∧ w' = w) := by
  go_enter Tryd.func37, Tryd.ntmps37
  go_wp2_with (go_at_call 18; (with_reducible refine (rin_f h).mono ?_); rintro _ w1 ⟨rfl, hw1⟩; obtain rfl : w = w1 := hw1.symm)
  go_ret
  exact ⟨rfl, rfl⟩
theorem svalid_0 {id obv rev os rs ax wt : Int} {w : World} (Yobv : Hid (obv < 1 ∨ 999 < obv)) : Calls Tryd.prog 24 #[.agg #[.int .i64 id, .int .i64 obv, .int .i64 rev, .int .i64 os, .int .i64 rs, .int .i64 ax, .int .i64 wt]] w (fun e w' => e = .returned (.bool false) ∧ Ext w w') := by
  go_enter Tryd.func24, Tryd.ntmps24
  go_upto_region 1 with (fail)
  have q0 : (w.alloc (.cells #[.int .i64 id, .int .i64 obv, .int .i64 rev, .int .i64 os, .int .i64 rs, .int .i64 ax, .int .i64 wt] 32)).cell? ⟨w.heap.size, 0, none⟩ = some (.int .i64 id) := by simp [go_sem]
  have q1 : (w.alloc (.cells #[.int .i64 id, .int .i64 obv, .int .i64 rev, .int .i64 os, .int .i64 rs, .int .i64 ax, .int .i64 wt] 32)).cell? ⟨w.heap.size, 1, none⟩ = some (.int .i64 obv) := by simp [go_sem]
  have q2 : (w.alloc (.cells #[.int .i64 id, .int .i64 obv, .int .i64 rev, .int .i64 os, .int .i64 rs, .int .i64 ax, .int .i64 wt] 32)).cell? ⟨w.heap.size, 2, none⟩ = some (.int .i64 rev) := by simp [go_sem]
  have q3 : (w.alloc (.cells #[.int .i64 id, .int .i64 obv, .int .i64 rev, .int .i64 os, .int .i64 rs, .int .i64 ax, .int .i64 wt] 32)).cell? ⟨w.heap.size, 3, none⟩ = some (.int .i64 os) := by simp [go_sem]
  have q4 : (w.alloc (.cells #[.int .i64 id, .int .i64 obv, .int .i64 rev, .int .i64 os, .int .i64 rs, .int .i64 ax, .int .i64 wt] 32)).cell? ⟨w.heap.size, 4, none⟩ = some (.int .i64 rs) := by simp [go_sem]
  have q5 : (w.alloc (.cells #[.int .i64 id, .int .i64 obv, .int .i64 rev, .int .i64 os, .int .i64 rs, .int .i64 ax, .int .i64 wt] 32)).cell? ⟨w.heap.size, 5, none⟩ = some (.int .i64 ax) := by simp [go_sem]
  have q6 : (w.alloc (.cells #[.int .i64 id, .int .i64 obv, .int .i64 rev, .int .i64 os, .int .i64 rs, .int .i64 ax, .int .i64 wt] 32)).cell? ⟨w.heap.size, 6, none⟩ = some (.int .i64 wt) := by simp [go_sem]
  have x0 : Ext w (w.alloc (.cells #[.int .i64 id, .int .i64 obv, .int .i64 rev, .int .i64 os, .int .i64 rs, .int .i64 ax, .int .i64 wt] 32)) := ext_alloc (Below.refl _ _) _
  generalize w.alloc (.cells #[.int .i64 id, .int .i64 obv, .int .i64 rev, .int .i64 os, .int .i64 rs, .int .i64 ax, .int .i64 wt] 32) = W0 at *
  go_wp2_with (first
    | (go_at_call 35; (with_reducible refine (sin_f (n := obv) Yobv.out).mono ?_); rintro _ w1 ⟨rfl, hw1⟩; obtain rfl : W0 = w1 := hw1.symm))
  go_ret
  exact ⟨rfl, x0⟩
theorem svalid_1 {id obv rev os rs ax wt : Int} {w : World} (Yobv : Hid (1 ≤ obv ∧ obv ≤ 999)) (Yrev : Hid (rev < 1 ∨ 999 < rev)) : Calls Tryd.prog 24 #[.agg #[.int .i64 id, .int .i64 obv, .int .i64 rev, .int .i64 os, .int .i64 rs, .int .i64 ax, .int .i64 wt]] w (fun e w' => e = .returned (.bool false) ∧ Ext w w') := by
  go_enter Tryd.func24, Tryd.ntmps24
  go_upto_region 1 with (fail)
  have q0 : (w.alloc (.cells #[.int .i64 id, .int .i64 obv, .int .i64 rev, .int .i64 os, .int .i64 rs, .int .i64 ax, .int .i64 wt] 32)).cell? ⟨w.heap.size, 0, none⟩ = some (.int .i64 id) := by simp [go_sem]
  have q1 : (w.alloc (.cells #[.int .i64 id, .int .i64 obv, .int .i64 rev, .int .i64 os, .int .i64 rs, .int .i64 ax, .int .i64 wt] 32)).cell? ⟨w.heap.size, 1, none⟩ = some (.int .i64 obv) := by simp [go_sem]
  have q2 : (w.alloc (.cells #[.int .i64 id, .int .i64 obv, .int .i64 rev, .int .i64 os, .int .i64 rs, .int .i64 ax, .int .i64 wt] 32)).cell? ⟨w.heap.size, 2, none⟩ = some (.int .i64 rev) := by simp [go_sem]
  have q3 : (w.alloc (.cells #[.int .i64 id, .int .i64 obv, .int .i64 rev, .int .i64 os, .int .i64 rs, .int .i64 ax, .int .i64 wt] 32)).cell? ⟨w.heap.size, 3, none⟩ = some (.int .i64 os) := by simp [go_sem]
  have q4 : (w.alloc (.cells #[.int .i64 id, .int .i64 obv, .int .i64 rev, .int .i64 os, .int .i64 rs, .int .i64 ax, .int .i64 wt] 32)).cell? ⟨w.heap.size, 4, none⟩ = some (.int .i64 rs) := by simp [go_sem]
  have q5 : (w.alloc (.cells #[.int .i64 id, .int .i64 obv, .int .i64 rev, .int .i64 os, .int .i64 rs, .int .i64 ax, .int .i64 wt] 32)).cell? ⟨w.heap.size, 5, none⟩ = some (.int .i64 ax) := by simp [go_sem]
  have q6 : (w.alloc (.cells #[.int .i64 id, .int .i64 obv, .int .i64 rev, .int .i64 os, .int .i64 rs, .int .i64 ax, .int .i64 wt] 32)).cell? ⟨w.heap.size, 6, none⟩ = some (.int .i64 wt) := by simp [go_sem]
  have x0 : Ext w (w.alloc (.cells #[.int .i64 id, .int .i64 obv, .int .i64 rev, .int .i64 os, .int .i64 rs, .int .i64 ax, .int .i64 wt] 32)) := ext_alloc (Below.refl _ _) _
  generalize w.alloc (.cells #[.int .i64 id, .int .i64 obv, .int .i64 rev, .int .i64 os, .int .i64 rs, .int .i64 ax, .int .i64 wt] 32) = W0 at *
  go_wp2_with (first
    | (go_at_call 35; (with_reducible refine (sin_t (n := obv) Yobv.out.1 Yobv.out.2).mono ?_); rintro _ w1 ⟨rfl, hw1⟩; obtain rfl : W0 = w1 := hw1.symm)
    | (go_at_call 35; (with_reducible refine (sin_f (n := rev) Yrev.out).mono ?_); rintro _ w1 ⟨rfl, hw1⟩; obtain rfl : W0 = w1 := hw1.symm))
  go_ret
  exact ⟨rfl, x0⟩
theorem svalid_2 {id obv rev os rs ax wt : Int} {w : World} (Yobv : Hid (1 ≤ obv ∧ obv ≤ 999)) (Yrev : Hid (1 ≤ rev ∧ rev ≤ 999)) (Yos : Hid (os < 1 ∨ 9 < os)) : Calls Tryd.prog 24 #[.agg #[.int .i64 id, .int .i64 obv, .int .i64 rev, .int .i64 os, .int .i64 rs, .int .i64 ax, .int .i64 wt]] w (fun e w' => e = .returned (.bool false) ∧ Ext w w') := by
  go_enter Tryd.func24, Tryd.ntmps24
  go_upto_region 1 with (fail)
  have q0 : (w.alloc (.cells #[.int .i64 id, .int .i64 obv, .int .i64 rev, .int .i64 os, .int .i64 rs, .int .i64 ax, .int .i64 wt] 32)).cell? ⟨w.heap.size, 0, none⟩ = some (.int .i64 id) := by simp [go_sem]
  have q1 : (w.alloc (.cells #[.int .i64 id, .int .i64 obv, .int .i64 rev, .int .i64 os, .int .i64 rs, .int .i64 ax, .int .i64 wt] 32)).cell? ⟨w.heap.size, 1, none⟩ = some (.int .i64 obv) := by simp [go_sem]
  have q2 : (w.alloc (.cells #[.int .i64 id, .int .i64 obv, .int .i64 rev, .int .i64 os, .int .i64 rs, .int .i64 ax, .int .i64 wt] 32)).cell? ⟨w.heap.size, 2, none⟩ = some (.int .i64 rev) := by simp [go_sem]
  have q3 : (w.alloc (.cells #[.int .i64 id, .int .i64 obv, .int .i64 rev, .int .i64 os, .int .i64 rs, .int .i64 ax, .int .i64 wt] 32)).cell? ⟨w.heap.size, 3, none⟩ = some (.int .i64 os) := by simp [go_sem]
  have q4 : (w.alloc (.cells #[.int .i64 id, .int .i64 obv, .int .i64 rev, .int .i64 os, .int .i64 rs, .int .i64 ax, .int .i64 wt] 32)).cell? ⟨w.heap.size, 4, none⟩ = some (.int .i64 rs) := by simp [go_sem]
  have q5 : (w.alloc (.cells #[.int .i64 id, .int .i64 obv, .int .i64 rev, .int .i64 os, .int .i64 rs, .int .i64 ax, .int .i64 wt] 32)).cell? ⟨w.heap.size, 5, none⟩ = some (.int .i64 ax) := by simp [go_sem]
  have q6 : (w.alloc (.cells #[.int .i64 id, .int .i64 obv, .int .i64 rev, .int .i64 os, .int .i64 rs, .int .i64 ax, .int .i64 wt] 32)).cell? ⟨w.heap.size, 6, none⟩ = some (.int .i64 wt) := by simp [go_sem]
  have x0 : Ext w (w.alloc (.cells #[.int .i64 id, .int .i64 obv, .int .i64 rev, .int .i64 os, .int .i64 rs, .int .i64 ax, .int .i64 wt] 32)) := ext_alloc (Below.refl _ _) _
  generalize w.alloc (.cells #[.int .i64 id, .int .i64 obv, .int .i64 rev, .int .i64 os, .int .i64 rs, .int .i64 ax, .int .i64 wt] 32) = W0 at *
  go_wp2_with (first
    | (go_at_call 35; (with_reducible refine (sin_t (n := obv) Yobv.out.1 Yobv.out.2).mono ?_); rintro _ w1 ⟨rfl, hw1⟩; obtain rfl : W0 = w1 := hw1.symm)
    | (go_at_call 35; (with_reducible refine (sin_t (n := rev) Yrev.out.1 Yrev.out.2).mono ?_); rintro _ w1 ⟨rfl, hw1⟩; obtain rfl : W0 = w1 := hw1.symm)
    | (go_at_call 35; (with_reducible refine (sin_f (n := os) Yos.out).mono ?_); rintro _ w1 ⟨rfl, hw1⟩; obtain rfl : W0 = w1 := hw1.symm))
  go_ret
  exact ⟨rfl, x0⟩
theorem svalid_3 {id obv rev os rs ax wt : Int} {w : World} (Yobv : Hid (1 ≤ obv ∧ obv ≤ 999)) (Yrev : Hid (1 ≤ rev ∧ rev ≤ 999)) (Yos : Hid (1 ≤ os ∧ os ≤ 9)) (Yrs : Hid (rs < 1 ∨ 9 < rs)) : Calls Tryd.prog 24 #[.agg #[.int .i64 id, .int .i64 obv, .int .i64 rev, .int .i64 os, .int .i64 rs, .int .i64 ax, .int .i64 wt]] w (fun e w' => e = .returned (.bool false) ∧ Ext w w') := by
  go_enter Tryd.func24, Tryd.ntmps24
  go_upto_region 1 with (fail)
  have q0 : (w.alloc (.cells #[.int .i64 id, .int .i64 obv, .int .i64 rev, .int .i64 os, .int .i64 rs, .int .i64 ax, .int .i64 wt] 32)).cell? ⟨w.heap.size, 0, none⟩ = some (.int .i64 id) := by simp [go_sem]
  have q1 : (w.alloc (.cells #[.int .i64 id, .int .i64 obv, .int .i64 rev, .int .i64 os, .int .i64 rs, .int .i64 ax, .int .i64 wt] 32)).cell? ⟨w.heap.size, 1, none⟩ = some (.int .i64 obv) := by simp [go_sem]
  have q2 : (w.alloc (.cells #[.int .i64 id, .int .i64 obv, .int .i64 rev, .int .i64 os, .int .i64 rs, .int .i64 ax, .int .i64 wt] 32)).cell? ⟨w.heap.size, 2, none⟩ = some (.int .i64 rev) := by simp [go_sem]
  have q3 : (w.alloc (.cells #[.int .i64 id, .int .i64 obv, .int .i64 rev, .int .i64 os, .int .i64 rs, .int .i64 ax, .int .i64 wt] 32)).cell? ⟨w.heap.size, 3, none⟩ = some (.int .i64 os) := by simp [go_sem]
  have q4 : (w.alloc (.cells #[.int .i64 id, .int .i64 obv, .int .i64 rev, .int .i64 os, .int .i64 rs, .int .i64 ax, .int .i64 wt] 32)).cell? ⟨w.heap.size, 4, none⟩ = some (.int .i64 rs) := by simp [go_sem]
  have q5 : (w.alloc (.cells #[.int .i64 id, .int .i64 obv, .int .i64 rev, .int .i64 os, .int .i64 rs, .int .i64 ax, .int .i64 wt] 32)).cell? ⟨w.heap.size, 5, none⟩ = some (.int .i64 ax) := by simp [go_sem]
  have q6 : (w.alloc (.cells #[.int .i64 id, .int .i64 obv, .int .i64 rev, .int .i64 os, .int .i64 rs, .int .i64 ax, .int .i64 wt] 32)).cell? ⟨w.heap.size, 6, none⟩ = some (.int .i64 wt) := by simp [go_sem]
  have x0 : Ext w (w.alloc (.cells #[.int .i64 id, .int .i64 obv, .int .i64 rev, .int .i64 os, .int .i64 rs, .int .i64 ax, .int .i64 wt] 32)) := ext_alloc (Below.refl _ _) _
  generalize w.alloc (.cells #[.int .i64 id, .int .i64 obv, .int .i64 rev, .int .i64 os, .int .i64 rs, .int .i64 ax, .int .i64 wt] 32) = W0 at *
  go_wp2_with (first
    | (go_at_call 35; (with_reducible refine (sin_t (n := obv) Yobv.out.1 Yobv.out.2).mono ?_); rintro _ w1 ⟨rfl, hw1⟩; obtain rfl : W0 = w1 := hw1.symm)
    | (go_at_call 35; (with_reducible refine (sin_t (n := rev) Yrev.out.1 Yrev.out.2).mono ?_); rintro _ w1 ⟨rfl, hw1⟩; obtain rfl : W0 = w1 := hw1.symm)
    | (go_at_call 35; (with_reducible refine (sin_t (n := os) Yos.out.1 Yos.out.2).mono ?_); rintro _ w1 ⟨rfl, hw1⟩; obtain rfl : W0 = w1 := hw1.symm)
    | (go_at_call 35; (with_reducible refine (sin_f (n := rs) Yrs.out).mono ?_); rintro _ w1 ⟨rfl, hw1⟩; obtain rfl : W0 = w1 := hw1.symm))
  go_ret
  exact ⟨rfl, x0⟩
theorem svalid_4 {id obv rev os rs ax wt : Int} {w : World} (Yobv : Hid (1 ≤ obv ∧ obv ≤ 999)) (Yrev : Hid (1 ≤ rev ∧ rev ≤ 999)) (Yos : Hid (1 ≤ os ∧ os ≤ 9)) (Yrs : Hid (1 ≤ rs ∧ rs ≤ 9)) (Yid : Hid (id < 1 ∨ 9999 < id)) : Calls Tryd.prog 24 #[.agg #[.int .i64 id, .int .i64 obv, .int .i64 rev, .int .i64 os, .int .i64 rs, .int .i64 ax, .int .i64 wt]] w (fun e w' => e = .returned (.bool false) ∧ Ext w w') := by
  go_enter Tryd.func24, Tryd.ntmps24
  go_upto_region 1 with (fail)
  have q0 : (w.alloc (.cells #[.int .i64 id, .int .i64 obv, .int .i64 rev, .int .i64 os, .int .i64 rs, .int .i64 ax, .int .i64 wt] 32)).cell? ⟨w.heap.size, 0, none⟩ = some (.int .i64 id) := by simp [go_sem]
  have q1 : (w.alloc (.cells #[.int .i64 id, .int .i64 obv, .int .i64 rev, .int .i64 os, .int .i64 rs, .int .i64 ax, .int .i64 wt] 32)).cell? ⟨w.heap.size, 1, none⟩ = some (.int .i64 obv) := by simp [go_sem]
  have q2 : (w.alloc (.cells #[.int .i64 id, .int .i64 obv, .int .i64 rev, .int .i64 os, .int .i64 rs, .int .i64 ax, .int .i64 wt] 32)).cell? ⟨w.heap.size, 2, none⟩ = some (.int .i64 rev) := by simp [go_sem]
  have q3 : (w.alloc (.cells #[.int .i64 id, .int .i64 obv, .int .i64 rev, .int .i64 os, .int .i64 rs, .int .i64 ax, .int .i64 wt] 32)).cell? ⟨w.heap.size, 3, none⟩ = some (.int .i64 os) := by simp [go_sem]
  have q4 : (w.alloc (.cells #[.int .i64 id, .int .i64 obv, .int .i64 rev, .int .i64 os, .int .i64 rs, .int .i64 ax, .int .i64 wt] 32)).cell? ⟨w.heap.size, 4, none⟩ = some (.int .i64 rs) := by simp [go_sem]
  have q5 : (w.alloc (.cells #[.int .i64 id, .int .i64 obv, .int .i64 rev, .int .i64 os, .int .i64 rs, .int .i64 ax, .int .i64 wt] 32)).cell? ⟨w.heap.size, 5, none⟩ = some (.int .i64 ax) := by simp [go_sem]
  have q6 : (w.alloc (.cells #[.int .i64 id, .int .i64 obv, .int .i64 rev, .int .i64 os, .int .i64 rs, .int .i64 ax, .int .i64 wt] 32)).cell? ⟨w.heap.size, 6, none⟩ = some (.int .i64 wt) := by simp [go_sem]
  have x0 : Ext w (w.alloc (.cells #[.int .i64 id, .int .i64 obv, .int .i64 rev, .int .i64 os, .int .i64 rs, .int .i64 ax, .int .i64 wt] 32)) := ext_alloc (Below.refl _ _) _
  generalize w.alloc (.cells #[.int .i64 id, .int .i64 obv, .int .i64 rev, .int .i64 os, .int .i64 rs, .int .i64 ax, .int .i64 wt] 32) = W0 at *
  go_wp2_with (first
    | (go_at_call 35; (with_reducible refine (sin_t (n := obv) Yobv.out.1 Yobv.out.2).mono ?_); rintro _ w1 ⟨rfl, hw1⟩; obtain rfl : W0 = w1 := hw1.symm)
    | (go_at_call 35; (with_reducible refine (sin_t (n := rev) Yrev.out.1 Yrev.out.2).mono ?_); rintro _ w1 ⟨rfl, hw1⟩; obtain rfl : W0 = w1 := hw1.symm)
    | (go_at_call 35; (with_reducible refine (sin_t (n := os) Yos.out.1 Yos.out.2).mono ?_); rintro _ w1 ⟨rfl, hw1⟩; obtain rfl : W0 = w1 := hw1.symm)
    | (go_at_call 35; (with_reducible refine (sin_t (n := rs) Yrs.out.1 Yrs.out.2).mono ?_); rintro _ w1 ⟨rfl, hw1⟩; obtain rfl : W0 = w1 := hw1.symm)
    | (go_at_call 35; (with_reducible refine (sin_f (n := id) Yid.out).mono ?_); rintro _ w1 ⟨rfl, hw1⟩; obtain rfl : W0 = w1 := hw1.symm))
  go_ret
  exact ⟨rfl, x0⟩
theorem svalid_5 {id obv rev os rs ax wt : Int} {w : World} (Yobv : Hid (1 ≤ obv ∧ obv ≤ 999)) (Yrev : Hid (1 ≤ rev ∧ rev ≤ 999)) (Yos : Hid (1 ≤ os ∧ os ≤ 9)) (Yrs : Hid (1 ≤ rs ∧ rs ≤ 9)) (Yid : Hid (1 ≤ id ∧ id ≤ 9999)) (Yax : Hid (ax < 0 ∨ 11 < ax)) : Calls Tryd.prog 24 #[.agg #[.int .i64 id, .int .i64 obv, .int .i64 rev, .int .i64 os, .int .i64 rs, .int .i64 ax, .int .i64 wt]] w (fun e w' => e = .returned (.bool false) ∧ Ext w w') := by
  go_enter Tryd.func24, Tryd.ntmps24
  go_upto_region 1 with (fail)
  have q0 : (w.alloc (.cells #[.int .i64 id, .int .i64 obv, .int .i64 rev, .int .i64 os, .int .i64 rs, .int .i64 ax, .int .i64 wt] 32)).cell? ⟨w.heap.size, 0, none⟩ = some (.int .i64 id) := by simp [go_sem]
  have q1 : (w.alloc (.cells #[.int .i64 id, .int .i64 obv, .int .i64 rev, .int .i64 os, .int .i64 rs, .int .i64 ax, .int .i64 wt] 32)).cell? ⟨w.heap.size, 1, none⟩ = some (.int .i64 obv) := by simp [go_sem]
  have q2 : (w.alloc (.cells #[.int .i64 id, .int .i64 obv, .int .i64 rev, .int .i64 os, .int .i64 rs, .int .i64 ax, .int .i64 wt] 32)).cell? ⟨w.heap.size, 2, none⟩ = some (.int .i64 rev) := by simp [go_sem]
  have q3 : (w.alloc (.cells #[.int .i64 id, .int .i64 obv, .int .i64 rev, .int .i64 os, .int .i64 rs, .int .i64 ax, .int .i64 wt] 32)).cell? ⟨w.heap.size, 3, none⟩ = some (.int .i64 os) := by simp [go_sem]
  have q4 : (w.alloc (.cells #[.int .i64 id, .int .i64 obv, .int .i64 rev, .int .i64 os, .int .i64 rs, .int .i64 ax, .int .i64 wt] 32)).cell? ⟨w.heap.size, 4, none⟩ = some (.int .i64 rs) := by simp [go_sem]
  have q5 : (w.alloc (.cells #[.int .i64 id, .int .i64 obv, .int .i64 rev, .int .i64 os, .int .i64 rs, .int .i64 ax, .int .i64 wt] 32)).cell? ⟨w.heap.size, 5, none⟩ = some (.int .i64 ax) := by simp [go_sem]
  have q6 : (w.alloc (.cells #[.int .i64 id, .int .i64 obv, .int .i64 rev, .int .i64 os, .int .i64 rs, .int .i64 ax, .int .i64 wt] 32)).cell? ⟨w.heap.size, 6, none⟩ = some (.int .i64 wt) := by simp [go_sem]
  have x0 : Ext w (w.alloc (.cells #[.int .i64 id, .int .i64 obv, .int .i64 rev, .int .i64 os, .int .i64 rs, .int .i64 ax, .int .i64 wt] 32)) := ext_alloc (Below.refl _ _) _
  generalize w.alloc (.cells #[.int .i64 id, .int .i64 obv, .int .i64 rev, .int .i64 os, .int .i64 rs, .int .i64 ax, .int .i64 wt] 32) = W0 at *
  go_wp2_with (first
    | (go_at_call 35; (with_reducible refine (sin_t (n := obv) Yobv.out.1 Yobv.out.2).mono ?_); rintro _ w1 ⟨rfl, hw1⟩; obtain rfl : W0 = w1 := hw1.symm)
    | (go_at_call 35; (with_reducible refine (sin_t (n := rev) Yrev.out.1 Yrev.out.2).mono ?_); rintro _ w1 ⟨rfl, hw1⟩; obtain rfl : W0 = w1 := hw1.symm)
    | (go_at_call 35; (with_reducible refine (sin_t (n := os) Yos.out.1 Yos.out.2).mono ?_); rintro _ w1 ⟨rfl, hw1⟩; obtain rfl : W0 = w1 := hw1.symm)
    | (go_at_call 35; (with_reducible refine (sin_t (n := rs) Yrs.out.1 Yrs.out.2).mono ?_); rintro _ w1 ⟨rfl, hw1⟩; obtain rfl : W0 = w1 := hw1.symm)
    | (go_at_call 35; (with_reducible refine (sin_t (n := id) Yid.out.1 Yid.out.2).mono ?_); rintro _ w1 ⟨rfl, hw1⟩; obtain rfl : W0 = w1 := hw1.symm)
    | (go_at_call 35; (with_reducible refine (sin_f (n := ax) Yax.out).mono ?_); rintro _ w1 ⟨rfl, hw1⟩; obtain rfl : W0 = w1 := hw1.symm))
  go_ret
  exact ⟨rfl, x0⟩
theorem svalid_6 {id obv rev os rs ax wt : Int} {w : World} (Yobv : Hid (1 ≤ obv ∧ obv ≤ 999)) (Yrev : Hid (1 ≤ rev ∧ rev ≤ 999)) (Yos : Hid (1 ≤ os ∧ os ≤ 9)) (Yrs : Hid (1 ≤ rs ∧ rs ≤ 9)) (Yid : Hid (1 ≤ id ∧ id ≤ 9999)) (Yax : Hid (0 ≤ ax ∧ ax ≤ 11)) (Ywt : Hid (wt < 1 ∨ 200000 < wt)) : Calls Tryd.prog 24 #[.agg #[.int .i64 id, .int .i64 obv, .int .i64 rev, .int .i64 os, .int .i64 rs, .int .i64 ax, .int .i64 wt]] w (fun e w' => e = .returned (.bool false) ∧ Ext w w') := by
  go_enter Tryd.func24, Tryd.ntmps24
  go_upto_region 1 with (fail)
  have q0 : (w.alloc (.cells #[.int .i64 id, .int .i64 obv, .int .i64 rev, .int .i64 os, .int .i64 rs, .int .i64 ax, .int .i64 wt] 32)).cell? ⟨w.heap.size, 0, none⟩ = some (.int .i64 id) := by simp [go_sem]
  have q1 : (w.alloc (.cells #[.int .i64 id, .int .i64 obv, .int .i64 rev, .int .i64 os, .int .i64 rs, .int .i64 ax, .int .i64 wt] 32)).cell? ⟨w.heap.size, 1, none⟩ = some (.int .i64 obv) := by simp [go_sem]
  have q2 : (w.alloc (.cells #[.int .i64 id, .int .i64 obv, .int .i64 rev, .int .i64 os, .int .i64 rs, .int .i64 ax, .int .i64 wt] 32)).cell? ⟨w.heap.size, 2, none⟩ = some (.int .i64 rev) := by simp [go_sem]
  have q3 : (w.alloc (.cells #[.int .i64 id, .int .i64 obv, .int .i64 rev, .int .i64 os, .int .i64 rs, .int .i64 ax, .int .i64 wt] 32)).cell? ⟨w.heap.size, 3, none⟩ = some (.int .i64 os) := by simp [go_sem]
  have q4 : (w.alloc (.cells #[.int .i64 id, .int .i64 obv, .int .i64 rev, .int .i64 os, .int .i64 rs, .int .i64 ax, .int .i64 wt] 32)).cell? ⟨w.heap.size, 4, none⟩ = some (.int .i64 rs) := by simp [go_sem]
  have q5 : (w.alloc (.cells #[.int .i64 id, .int .i64 obv, .int .i64 rev, .int .i64 os, .int .i64 rs, .int .i64 ax, .int .i64 wt] 32)).cell? ⟨w.heap.size, 5, none⟩ = some (.int .i64 ax) := by simp [go_sem]
  have q6 : (w.alloc (.cells #[.int .i64 id, .int .i64 obv, .int .i64 rev, .int .i64 os, .int .i64 rs, .int .i64 ax, .int .i64 wt] 32)).cell? ⟨w.heap.size, 6, none⟩ = some (.int .i64 wt) := by simp [go_sem]
  have x0 : Ext w (w.alloc (.cells #[.int .i64 id, .int .i64 obv, .int .i64 rev, .int .i64 os, .int .i64 rs, .int .i64 ax, .int .i64 wt] 32)) := ext_alloc (Below.refl _ _) _
  generalize w.alloc (.cells #[.int .i64 id, .int .i64 obv, .int .i64 rev, .int .i64 os, .int .i64 rs, .int .i64 ax, .int .i64 wt] 32) = W0 at *
  go_wp2_with (first
    | (go_at_call 35; (with_reducible refine (sin_t (n := obv) Yobv.out.1 Yobv.out.2).mono ?_); rintro _ w1 ⟨rfl, hw1⟩; obtain rfl : W0 = w1 := hw1.symm)
    | (go_at_call 35; (with_reducible refine (sin_t (n := rev) Yrev.out.1 Yrev.out.2).mono ?_); rintro _ w1 ⟨rfl, hw1⟩; obtain rfl : W0 = w1 := hw1.symm)
    | (go_at_call 35; (with_reducible refine (sin_t (n := os) Yos.out.1 Yos.out.2).mono ?_); rintro _ w1 ⟨rfl, hw1⟩; obtain rfl : W0 = w1 := hw1.symm)
    | (go_at_call 35; (with_reducible refine (sin_t (n := rs) Yrs.out.1 Yrs.out.2).mono ?_); rintro _ w1 ⟨rfl, hw1⟩; obtain rfl : W0 = w1 := hw1.symm)
    | (go_at_call 35; (with_reducible refine (sin_t (n := id) Yid.out.1 Yid.out.2).mono ?_); rintro _ w1 ⟨rfl, hw1⟩; obtain rfl : W0 = w1 := hw1.symm)
    | (go_at_call 35; (with_reducible refine (sin_t (n := ax) Yax.out.1 Yax.out.2).mono ?_); rintro _ w1 ⟨rfl, hw1⟩; obtain rfl : W0 = w1 := hw1.symm)
    | (go_at_call 35; (with_reducible refine (sin_f (n := wt) Ywt.out).mono ?_); rintro _ w1 ⟨rfl, hw1⟩; obtain rfl : W0 = w1 := hw1.symm))
  go_ret
  exact ⟨rfl, x0⟩
theorem svalid_7 {id obv rev os rs ax wt : Int} {w : World} (Yobv : Hid (1 ≤ obv ∧ obv ≤ 999)) (Yrev : Hid (1 ≤ rev ∧ rev ≤ 999)) (Yos : Hid (1 ≤ os ∧ os ≤ 9)) (Yrs : Hid (1 ≤ rs ∧ rs ≤ 9)) (Yid : Hid (1 ≤ id ∧ id ≤ 9999)) (Yax : Hid (0 ≤ ax ∧ ax ≤ 11)) (Ywt : Hid (1 ≤ wt ∧ wt ≤ 200000)) : Calls Tryd.prog 24 #[.agg #[.int .i64 id, .int .i64 obv, .int .i64 rev, .int .i64 os, .int .i64 rs, .int .i64 ax, .int .i64 wt]] w (fun e w' => e = .returned (.bool true) ∧ Ext w w') := by
  go_enter Tryd.func24, Tryd.ntmps24
  go_upto_region 1 with (fail)
  have q0 : (w.alloc (.cells #[.int .i64 id, .int .i64 obv, .int .i64 rev, .int .i64 os, .int .i64 rs, .int .i64 ax, .int .i64 wt] 32)).cell? ⟨w.heap.size, 0, none⟩ = some (.int .i64 id) := by simp [go_sem]
  have q1 : (w.alloc (.cells #[.int .i64 id, .int .i64 obv, .int .i64 rev, .int .i64 os, .int .i64 rs, .int .i64 ax, .int .i64 wt] 32)).cell? ⟨w.heap.size, 1, none⟩ = some (.int .i64 obv) := by simp [go_sem]
  have q2 : (w.alloc (.cells #[.int .i64 id, .int .i64 obv, .int .i64 rev, .int .i64 os, .int .i64 rs, .int .i64 ax, .int .i64 wt] 32)).cell? ⟨w.heap.size, 2, none⟩ = some (.int .i64 rev) := by simp [go_sem]
  have q3 : (w.alloc (.cells #[.int .i64 id, .int .i64 obv, .int .i64 rev, .int .i64 os, .int .i64 rs, .int .i64 ax, .int .i64 wt] 32)).cell? ⟨w.heap.size, 3, none⟩ = some (.int .i64 os) := by simp [go_sem]
  have q4 : (w.alloc (.cells #[.int .i64 id, .int .i64 obv, .int .i64 rev, .int .i64 os, .int .i64 rs, .int .i64 ax, .int .i64 wt] 32)).cell? ⟨w.heap.size, 4, none⟩ = some (.int .i64 rs) := by simp [go_sem]
  have q5 : (w.alloc (.cells #[.int .i64 id, .int .i64 obv, .int .i64 rev, .int .i64 os, .int .i64 rs, .int .i64 ax, .int .i64 wt] 32)).cell? ⟨w.heap.size, 5, none⟩ = some (.int .i64 ax) := by simp [go_sem]
  have q6 : (w.alloc (.cells #[.int .i64 id, .int .i64 obv, .int .i64 rev, .int .i64 os, .int .i64 rs, .int .i64 ax, .int .i64 wt] 32)).cell? ⟨w.heap.size, 6, none⟩ = some (.int .i64 wt) := by simp [go_sem]
  have x0 : Ext w (w.alloc (.cells #[.int .i64 id, .int .i64 obv, .int .i64 rev, .int .i64 os, .int .i64 rs, .int .i64 ax, .int .i64 wt] 32)) := ext_alloc (Below.refl _ _) _
  generalize w.alloc (.cells #[.int .i64 id, .int .i64 obv, .int .i64 rev, .int .i64 os, .int .i64 rs, .int .i64 ax, .int .i64 wt] 32) = W0 at *
  go_wp2_with (first
    | (go_at_call 35; (with_reducible refine (sin_t (n := obv) Yobv.out.1 Yobv.out.2).mono ?_); rintro _ w1 ⟨rfl, hw1⟩; obtain rfl : W0 = w1 := hw1.symm)
    | (go_at_call 35; (with_reducible refine (sin_t (n := rev) Yrev.out.1 Yrev.out.2).mono ?_); rintro _ w1 ⟨rfl, hw1⟩; obtain rfl : W0 = w1 := hw1.symm)
    | (go_at_call 35; (with_reducible refine (sin_t (n := os) Yos.out.1 Yos.out.2).mono ?_); rintro _ w1 ⟨rfl, hw1⟩; obtain rfl : W0 = w1 := hw1.symm)
    | (go_at_call 35; (with_reducible refine (sin_t (n := rs) Yrs.out.1 Yrs.out.2).mono ?_); rintro _ w1 ⟨rfl, hw1⟩; obtain rfl : W0 = w1 := hw1.symm)
    | (go_at_call 35; (with_reducible refine (sin_t (n := id) Yid.out.1 Yid.out.2).mono ?_); rintro _ w1 ⟨rfl, hw1⟩; obtain rfl : W0 = w1 := hw1.symm)
    | (go_at_call 35; (with_reducible refine (sin_t (n := ax) Yax.out.1 Yax.out.2).mono ?_); rintro _ w1 ⟨rfl, hw1⟩; obtain rfl : W0 = w1 := hw1.symm)
    | (go_at_call 35; (with_reducible refine (sin_t (n := wt) Ywt.out.1 Ywt.out.2).mono ?_); rintro _ w1 ⟨rfl, hw1⟩; obtain rfl : W0 = w1 := hw1.symm))
  go_ret
  exact ⟨rfl, x0⟩
theorem rspec_0a {id obv rev os rs ax wt : Int} {w : World} (Yobv : Hid (obv < 1 ∨ 999 < obv)) (Yid : Hid (1 ≤ id ∧ id ≤ 9999)) : Calls Tryd.prog 26 #[.agg #[.int .i64 id, .int .i64 obv, .int .i64 rev, .int .i64 os, .int .i64 rs, .int .i64 ax, .int .i64 wt]] w (fun e w' => e = .returned (.bool false) ∧ Ext w w') := by
  go_enter Tryd.func26, Tryd.ntmps26
  go_upto_region 1 with (fail)
  have q0 : (w.alloc (.cells #[.int .i64 id, .int .i64 obv, .int .i64 rev, .int .i64 os, .int .i64 rs, .int .i64 ax, .int .i64 wt] 32)).cell? ⟨w.heap.size, 0, none⟩ = some (.int .i64 id) := by simp [go_sem]
  have q1 : (w.alloc (.cells #[.int .i64 id, .int .i64 obv, .int .i64 rev, .int .i64 os, .int .i64 rs, .int .i64 ax, .int .i64 wt] 32)).cell? ⟨w.heap.size, 1, none⟩ = some (.int .i64 obv) := by simp [go_sem]
  have q2 : (w.alloc (.cells #[.int .i64 id, .int .i64 obv, .int .i64 rev, .int .i64 os, .int .i64 rs, .int .i64 ax, .int .i64 wt] 32)).cell? ⟨w.heap.size, 2, none⟩ = some (.int .i64 rev) := by simp [go_sem]
  have q3 : (w.alloc (.cells #[.int .i64 id, .int .i64 obv, .int .i64 rev, .int .i64 os, .int .i64 rs, .int .i64 ax, .int .i64 wt] 32)).cell? ⟨w.heap.size, 3, none⟩ = some (.int .i64 os) := by simp [go_sem]
  have q4 : (w.alloc (.cells #[.int .i64 id, .int .i64 obv, .int .i64 rev, .int .i64 os, .int .i64 rs, .int .i64 ax, .int .i64 wt] 32)).cell? ⟨w.heap.size, 4, none⟩ = some (.int .i64 rs) := by simp [go_sem]
  have q5 : (w.alloc (.cells #[.int .i64 id, .int .i64 obv, .int .i64 rev, .int .i64 os, .int .i64 rs, .int .i64 ax, .int .i64 wt] 32)).cell? ⟨w.heap.size, 5, none⟩ = some (.int .i64 ax) := by simp [go_sem]
  have q6 : (w.alloc (.cells #[.int .i64 id, .int .i64 obv, .int .i64 rev, .int .i64 os, .int .i64 rs, .int .i64 ax, .int .i64 wt] 32)).cell? ⟨w.heap.size, 6, none⟩ = some (.int .i64 wt) := by simp [go_sem]
  have x0 : Ext w (w.alloc (.cells #[.int .i64 id, .int .i64 obv, .int .i64 rev, .int .i64 os, .int .i64 rs, .int .i64 ax, .int .i64 wt] 32)) := ext_alloc (Below.refl _ _) _
  generalize w.alloc (.cells #[.int .i64 id, .int .i64 obv, .int .i64 rev, .int .i64 os, .int .i64 rs, .int .i64 ax, .int .i64 wt] 32) = W0 at *
  go_wp2_with (first
    | (go_at_call 36; (with_reducible refine (rnum_f (n := obv) Yobv.out).mono ?_); rintro _ w1 ⟨rfl, hw1⟩; obtain rfl : W0 = w1 := hw1.symm)
    | (go_at_call 37; (with_reducible refine (rid_t (n := id) Yid.out.1 Yid.out.2).mono ?_); rintro _ w1 ⟨rfl, hw1⟩; obtain rfl : W0 = w1 := hw1.symm))
  go_ret
  exact ⟨rfl, x0⟩
theorem rspec_0b {id obv rev os rs ax wt : Int} {w : World} (Yobv : Hid (obv < 1 ∨ 999 < obv)) (Yid : Hid (id < 1 ∨ 9999 < id)) : Calls Tryd.prog 26 #[.agg #[.int .i64 id, .int .i64 obv, .int .i64 rev, .int .i64 os, .int .i64 rs, .int .i64 ax, .int .i64 wt]] w (fun e w' => e = .returned (.bool false) ∧ Ext w w') := by
  go_enter Tryd.func26, Tryd.ntmps26
  go_upto_region 1 with (fail)
  have q0 : (w.alloc (.cells #[.int .i64 id, .int .i64 obv, .int .i64 rev, .int .i64 os, .int .i64 rs, .int .i64 ax, .int .i64 wt] 32)).cell? ⟨w.heap.size, 0, none⟩ = some (.int .i64 id) := by simp [go_sem]
  have q1 : (w.alloc (.cells #[.int .i64 id, .int .i64 obv, .int .i64 rev, .int .i64 os, .int .i64 rs, .int .i64 ax, .int .i64 wt] 32)).cell? ⟨w.heap.size, 1, none⟩ = some (.int .i64 obv) := by simp [go_sem]
  have q2 : (w.alloc (.cells #[.int .i64 id, .int .i64 obv, .int .i64 rev, .int .i64 os, .int .i64 rs, .int .i64 ax, .int .i64 wt] 32)).cell? ⟨w.heap.size, 2, none⟩ = some (.int .i64 rev) := by simp [go_sem]
  have q3 : (w.alloc (.cells #[.int .i64 id, .int .i64 obv, .int .i64 rev, .int .i64 os, .int .i64 rs, .int .i64 ax, .int .i64 wt] 32)).cell? ⟨w.heap.size, 3, none⟩ = some (.int .i64 os) := by simp [go_sem]
  have q4 : (w.alloc (.cells #[.int .i64 id, .int .i64 obv, .int .i64 rev, .int .i64 os, .int .i64 rs, .int .i64 ax, .int .i64 wt] 32)).cell? ⟨w.heap.size, 4, none⟩ = some (.int .i64 rs) := by simp [go_sem]
  have q5 : (w.alloc (.cells #[.int .i64 id, .int .i64 obv, .int .i64 rev, .int .i64 os, .int .i64 rs, .int .i64 ax, .int .i64 wt] 32)).cell? ⟨w.heap.size, 5, none⟩ = some (.int .i64 ax) := by simp [go_sem]
  have q6 : (w.alloc (.cells #[.int .i64 id, .int .i64 obv, .int .i64 rev, .int .i64 os, .int .i64 rs, .int .i64 ax, .int .i64 wt] 32)).cell? ⟨w.heap.size, 6, none⟩ = some (.int .i64 wt) := by simp [go_sem]
  have x0 : Ext w (w.alloc (.cells #[.int .i64 id, .int .i64 obv, .int .i64 rev, .int .i64 os, .int .i64 rs, .int .i64 ax, .int .i64 wt] 32)) := ext_alloc (Below.refl _ _) _
  generalize w.alloc (.cells #[.int .i64 id, .int .i64 obv, .int .i64 rev, .int .i64 os, .int .i64 rs, .int .i64 ax, .int .i64 wt] 32) = W0 at *
  go_wp2_with (first
    | (go_at_call 36; (with_reducible refine (rnum_f (n := obv) Yobv.out).mono ?_); rintro _ w1 ⟨rfl, hw1⟩; obtain rfl : W0 = w1 := hw1.symm)
    | (go_at_call 37; (with_reducible refine (rid_f (n := id) Yid.out).mono ?_); rintro _ w1 ⟨rfl, hw1⟩; obtain rfl : W0 = w1 := hw1.symm))
  go_ret
  exact ⟨rfl, x0⟩
theorem rspec_1a {id obv rev os rs ax wt : Int} {w : World} (Yobv : Hid (1 ≤ obv ∧ obv ≤ 999)) (Yrev : Hid (rev < 1 ∨ 999 < rev)) (Yid : Hid (1 ≤ id ∧ id ≤ 9999)) : Calls Tryd.prog 26 #[.agg #[.int .i64 id, .int .i64 obv, .int .i64 rev, .int .i64 os, .int .i64 rs, .int .i64 ax, .int .i64 wt]] w (fun e w' => e = .returned (.bool false) ∧ Ext w w') := by
  go_enter Tryd.func26, Tryd.ntmps26
  go_upto_region 1 with (fail)
  have q0 : (w.alloc (.cells #[.int .i64 id, .int .i64 obv, .int .i64 rev, .int .i64 os, .int .i64 rs, .int .i64 ax, .int .i64 wt] 32)).cell? ⟨w.heap.size, 0, none⟩ = some (.int .i64 id) := by simp [go_sem]
  have q1 : (w.alloc (.cells #[.int .i64 id, .int .i64 obv, .int .i64 rev, .int .i64 os, .int .i64 rs, .int .i64 ax, .int .i64 wt] 32)).cell? ⟨w.heap.size, 1, none⟩ = some (.int .i64 obv) := by simp [go_sem]
  have q2 : (w.alloc (.cells #[.int .i64 id, .int .i64 obv, .int .i64 rev, .int .i64 os, .int .i64 rs, .int .i64 ax, .int .i64 wt] 32)).cell? ⟨w.heap.size, 2, none⟩ = some (.int .i64 rev) := by simp [go_sem]
  have q3 : (w.alloc (.cells #[.int .i64 id, .int .i64 obv, .int .i64 rev, .int .i64 os, .int .i64 rs, .int .i64 ax, .int .i64 wt] 32)).cell? ⟨w.heap.size, 3, none⟩ = some (.int .i64 os) := by simp [go_sem]
  have q4 : (w.alloc (.cells #[.int .i64 id, .int .i64 obv, .int .i64 rev, .int .i64 os, .int .i64 rs, .int .i64 ax, .int .i64 wt] 32)).cell? ⟨w.heap.size, 4, none⟩ = some (.int .i64 rs) := by simp [go_sem]
  have q5 : (w.alloc (.cells #[.int .i64 id, .int .i64 obv, .int .i64 rev, .int .i64 os, .int .i64 rs, .int .i64 ax, .int .i64 wt] 32)).cell? ⟨w.heap.size, 5, none⟩ = some (.int .i64 ax) := by simp [go_sem]
  have q6 : (w.alloc (.cells #[.int .i64 id, .int .i64 obv, .int .i64 rev, .int .i64 os, .int .i64 rs, .int .i64 ax, .int .i64 wt] 32)).cell? ⟨w.heap.size, 6, none⟩ = some (.int .i64 wt) := by simp [go_sem]
  have x0 : Ext w (w.alloc (.cells #[.int .i64 id, .int .i64 obv, .int .i64 rev, .int .i64 os, .int .i64 rs, .int .i64 ax, .int .i64 wt] 32)) := ext_alloc (Below.refl _ _) _
  generalize w.alloc (.cells #[.int .i64 id, .int .i64 obv, .int .i64 rev, .int .i64 os, .int .i64 rs, .int .i64 ax, .int .i64 wt] 32) = W0 at *
  go_wp2_with (first
    | (go_at_call 36; (with_reducible refine (rnum_t (n := obv) Yobv.out.1 Yobv.out.2).mono ?_); rintro _ w1 ⟨rfl, hw1⟩; obtain rfl : W0 = w1 := hw1.symm)
    | (go_at_call 36; (with_reducible refine (rnum_f (n := rev) Yrev.out).mono ?_); rintro _ w1 ⟨rfl, hw1⟩; obtain rfl : W0 = w1 := hw1.symm)
    | (go_at_call 37; (with_reducible refine (rid_t (n := id) Yid.out.1 Yid.out.2).mono ?_); rintro _ w1 ⟨rfl, hw1⟩; obtain rfl : W0 = w1 := hw1.symm))
  go_ret
  exact ⟨rfl, x0⟩
theorem rspec_1b {id obv rev os rs ax wt : Int} {w : World} (Yobv : Hid (1 ≤ obv ∧ obv ≤ 999)) (Yrev : Hid (rev < 1 ∨ 999 < rev)) (Yid : Hid (id < 1 ∨ 9999 < id)) : Calls Tryd.prog 26 #[.agg #[.int .i64 id, .int .i64 obv, .int .i64 rev, .int .i64 os, .int .i64 rs, .int .i64 ax, .int .i64 wt]] w (fun e w' => e = .returned (.bool false) ∧ Ext w w') := by
  go_enter Tryd.func26, Tryd.ntmps26
  go_upto_region 1 with (fail)
  have q0 : (w.alloc (.cells #[.int .i64 id, .int .i64 obv, .int .i64 rev, .int .i64 os, .int .i64 rs, .int .i64 ax, .int .i64 wt] 32)).cell? ⟨w.heap.size, 0, none⟩ = some (.int .i64 id) := by simp [go_sem]
  have q1 : (w.alloc (.cells #[.int .i64 id, .int .i64 obv, .int .i64 rev, .int .i64 os, .int .i64 rs, .int .i64 ax, .int .i64 wt] 32)).cell? ⟨w.heap.size, 1, none⟩ = some (.int .i64 obv) := by simp [go_sem]
  have q2 : (w.alloc (.cells #[.int .i64 id, .int .i64 obv, .int .i64 rev, .int .i64 os, .int .i64 rs, .int .i64 ax, .int .i64 wt] 32)).cell? ⟨w.heap.size, 2, none⟩ = some (.int .i64 rev) := by simp [go_sem]
  have q3 : (w.alloc (.cells #[.int .i64 id, .int .i64 obv, .int .i64 rev, .int .i64 os, .int .i64 rs, .int .i64 ax, .int .i64 wt] 32)).cell? ⟨w.heap.size, 3, none⟩ = some (.int .i64 os) := by simp [go_sem]
  have q4 : (w.alloc (.cells #[.int .i64 id, .int .i64 obv, .int .i64 rev, .int .i64 os, .int .i64 rs, .int .i64 ax, .int .i64 wt] 32)).cell? ⟨w.heap.size, 4, none⟩ = some (.int .i64 rs) := by simp [go_sem]
  have q5 : (w.alloc (.cells #[.int .i64 id, .int .i64 obv, .int .i64 rev, .int .i64 os, .int .i64 rs, .int .i64 ax, .int .i64 wt] 32)).cell? ⟨w.heap.size, 5, none⟩ = some (.int .i64 ax) := by simp [go_sem]
  have q6 : (w.alloc (.cells #[.int .i64 id, .int .i64 obv, .int .i64 rev, .int .i64 os, .int .i64 rs, .int .i64 ax, .int .i64 wt] 32)).cell? ⟨w.heap.size, 6, none⟩ = some (.int .i64 wt) := by simp [go_sem]
  have x0 : Ext w (w.alloc (.cells #[.int .i64 id, .int .i64 obv, .int .i64 rev, .int .i64 os, .int .i64 rs, .int .i64 ax, .int .i64 wt] 32)) := ext_alloc (Below.refl _ _) _
  generalize w.alloc (.cells #[.int .i64 id, .int .i64 obv, .int .i64 rev, .int .i64 os, .int .i64 rs, .int .i64 ax, .int .i64 wt] 32) = W0 at *
  go_wp2_with (first
    | (go_at_call 36; (with_reducible refine (rnum_t (n := obv) Yobv.out.1 Yobv.out.2).mono ?_); rintro _ w1 ⟨rfl, hw1⟩; obtain rfl : W0 = w1 := hw1.symm)
    | (go_at_call 36; (with_reducible refine (rnum_f (n := rev) Yrev.out).mono ?_); rintro _ w1 ⟨rfl, hw1⟩; obtain rfl : W0 = w1 := hw1.symm)
    | (go_at_call 37; (with_reducible refine (rid_f (n := id) Yid.out).mono ?_); rintro _ w1 ⟨rfl, hw1⟩; obtain rfl : W0 = w1 := hw1.symm))
  go_ret
  exact ⟨rfl, x0⟩
theorem rspec_2a {id obv rev os rs ax wt : Int} {w : World} (Yobv : Hid (1 ≤ obv ∧ obv ≤ 999)) (Yrev : Hid (1 ≤ rev ∧ rev ≤ 999)) (Yos : Hid (os < 1 ∨ 9 < os)) (Yid : Hid (1 ≤ id ∧ id ≤ 9999)) : Calls Tryd.prog 26 #[.agg #[.int .i64 id, .int .i64 obv, .int .i64 rev, .int .i64 os, .int .i64 rs, .int .i64 ax, .int .i64 wt]] w (fun e w' => e = .returned (.bool false) ∧ Ext w w') := by
  go_enter Tryd.func26, Tryd.ntmps26
  go_upto_region 1 with (fail)
  have q0 : (w.alloc (.cells #[.int .i64 id, .int .i64 obv, .int .i64 rev, .int .i64 os, .int .i64 rs, .int .i64 ax, .int .i64 wt] 32)).cell? ⟨w.heap.size, 0, none⟩ = some (.int .i64 id) := by simp [go_sem]
  have q1 : (w.alloc (.cells #[.int .i64 id, .int .i64 obv, .int .i64 rev, .int .i64 os, .int .i64 rs, .int .i64 ax, .int .i64 wt] 32)).cell? ⟨w.heap.size, 1, none⟩ = some (.int .i64 obv) := by simp [go_sem]
  have q2 : (w.alloc (.cells #[.int .i64 id, .int .i64 obv, .int .i64 rev, .int .i64 os, .int .i64 rs, .int .i64 ax, .int .i64 wt] 32)).cell? ⟨w.heap.size, 2, none⟩ = some (.int .i64 rev) := by simp [go_sem]
  have q3 : (w.alloc (.cells #[.int .i64 id, .int .i64 obv, .int .i64 rev, .int .i64 os, .int .i64 rs, .int .i64 ax, .int .i64 wt] 32)).cell? ⟨w.heap.size, 3, none⟩ = some (.int .i64 os) := by simp [go_sem]
  have q4 : (w.alloc (.cells #[.int .i64 id, .int .i64 obv, .int .i64 rev, .int .i64 os, .int .i64 rs, .int .i64 ax, .int .i64 wt] 32)).cell? ⟨w.heap.size, 4, none⟩ = some (.int .i64 rs) := by simp [go_sem]
  have q5 : (w.alloc (.cells #[.int .i64 id, .int .i64 obv, .int .i64 rev, .int .i64 os, .int .i64 rs, .int .i64 ax, .int .i64 wt] 32)).cell? ⟨w.heap.size, 5, none⟩ = some (.int .i64 ax) := by simp [go_sem]
  have q6 : (w.alloc (.cells #[.int .i64 id, .int .i64 obv, .int .i64 rev, .int .i64 os, .int .i64 rs, .int .i64 ax, .int .i64 wt] 32)).cell? ⟨w.heap.size, 6, none⟩ = some (.int .i64 wt) := by simp [go_sem]
  have x0 : Ext w (w.alloc (.cells #[.int .i64 id, .int .i64 obv, .int .i64 rev, .int .i64 os, .int .i64 rs, .int .i64 ax, .int .i64 wt] 32)) := ext_alloc (Below.refl _ _) _
  generalize w.alloc (.cells #[.int .i64 id, .int .i64 obv, .int .i64 rev, .int .i64 os, .int .i64 rs, .int .i64 ax, .int .i64 wt] 32) = W0 at *
  go_wp2_with (first
    | (go_at_call 36; (with_reducible refine (rnum_t (n := obv) Yobv.out.1 Yobv.out.2).mono ?_); rintro _ w1 ⟨rfl, hw1⟩; obtain rfl : W0 = w1 := hw1.symm)
    | (go_at_call 36; (with_reducible refine (rnum_t (n := rev) Yrev.out.1 Yrev.out.2).mono ?_); rintro _ w1 ⟨rfl, hw1⟩; obtain rfl : W0 = w1 := hw1.symm)
    | (go_at_call 18; (with_reducible refine (rin_f (n := os) Yos.out).mono ?_); rintro _ w1 ⟨rfl, hw1⟩; obtain rfl : W0 = w1 := hw1.symm)
    | (go_at_call 37; (with_reducible refine (rid_t (n := id) Yid.out.1 Yid.out.2).mono ?_); rintro _ w1 ⟨rfl, hw1⟩; obtain rfl : W0 = w1 := hw1.symm))
  go_ret
  exact ⟨rfl, x0⟩
theorem rspec_2b {id obv rev os rs ax wt : Int} {w : World} (Yobv : Hid (1 ≤ obv ∧ obv ≤ 999)) (Yrev : Hid (1 ≤ rev ∧ rev ≤ 999)) (Yos : Hid (os < 1 ∨ 9 < os)) (Yid : Hid (id < 1 ∨ 9999 < id)) : Calls Tryd.prog 26 #[.agg #[.int .i64 id, .int .i64 obv, .int .i64 rev, .int .i64 os, .int .i64 rs, .int .i64 ax, .int .i64 wt]] w (fun e w' => e = .returned (.bool false) ∧ Ext w w') := by
  go_enter Tryd.func26, Tryd.ntmps26
  go_upto_region 1 with (fail)
  have q0 : (w.alloc (.cells #[.int .i64 id, .int .i64 obv, .int .i64 rev, .int .i64 os, .int .i64 rs, .int .i64 ax, .int .i64 wt] 32)).cell? ⟨w.heap.size, 0, none⟩ = some (.int .i64 id) := by simp [go_sem]
  have q1 : (w.alloc (.cells #[.int .i64 id, .int .i64 obv, .int .i64 rev, .int .i64 os, .int .i64 rs, .int .i64 ax, .int .i64 wt] 32)).cell? ⟨w.heap.size, 1, none⟩ = some (.int .i64 obv) := by simp [go_sem]
  have q2 : (w.alloc (.cells #[.int .i64 id, .int .i64 obv, .int .i64 rev, .int .i64 os, .int .i64 rs, .int .i64 ax, .int .i64 wt] 32)).cell? ⟨w.heap.size, 2, none⟩ = some (.int .i64 rev) := by simp [go_sem]
  have q3 : (w.alloc (.cells #[.int .i64 id, .int .i64 obv, .int .i64 rev, .int .i64 os, .int .i64 rs, .int .i64 ax, .int .i64 wt] 32)).cell? ⟨w.heap.size, 3, none⟩ = some (.int .i64 os) := by simp [go_sem]
  have q4 : (w.alloc (.cells #[.int .i64 id, .int .i64 obv, .int .i64 rev, .int .i64 os, .int .i64 rs, .int .i64 ax, .int .i64 wt] 32)).cell? ⟨w.heap.size, 4, none⟩ = some (.int .i64 rs) := by simp [go_sem]
  have q5 : (w.alloc (.cells #[.int .i64 id, .int .i64 obv, .int .i64 rev, .int .i64 os, .int .i64 rs, .int .i64 ax, .int .i64 wt] 32)).cell? ⟨w.heap.size, 5, none⟩ = some (.int .i64 ax) := by simp [go_sem]
  have q6 : (w.alloc (.cells #[.int .i64 id, .int .i64 obv, .int .i64 rev, .int .i64 os, .int .i64 rs, .int .i64 ax, .int .i64 wt] 32)).cell? ⟨w.heap.size, 6, none⟩ = some (.int .i64 wt) := by simp [go_sem]
  have x0 : Ext w (w.alloc (.cells #[.int .i64 id, .int .i64 obv, .int .i64 rev, .int .i64 os, .int .i64 rs, .int .i64 ax, .int .i64 wt] 32)) := ext_alloc (Below.refl _ _) _
  generalize w.alloc (.cells #[.int .i64 id, .int .i64 obv, .int .i64 rev, .int .i64 os, .int .i64 rs, .int .i64 ax, .int .i64 wt] 32) = W0 at *
  go_wp2_with (first
    | (go_at_call 36; (with_reducible refine (rnum_t (n := obv) Yobv.out.1 Yobv.out.2).mono ?_); rintro _ w1 ⟨rfl, hw1⟩; obtain rfl : W0 = w1 := hw1.symm)
    | (go_at_call 36; (with_reducible refine (rnum_t (n := rev) Yrev.out.1 Yrev.out.2).mono ?_); rintro _ w1 ⟨rfl, hw1⟩; obtain rfl : W0 = w1 := hw1.symm)
    | (go_at_call 18; (with_reducible refine (rin_f (n := os) Yos.out).mono ?_); rintro _ w1 ⟨rfl, hw1⟩; obtain rfl : W0 = w1 := hw1.symm)
    | (go_at_call 37; (with_reducible refine (rid_f (n := id) Yid.out).mono ?_); rintro _ w1 ⟨rfl, hw1⟩; obtain rfl : W0 = w1 := hw1.symm))
  go_ret
  exact ⟨rfl, x0⟩
theorem rspec_3a {id obv rev os rs ax wt : Int} {w : World} (Yobv : Hid (1 ≤ obv ∧ obv ≤ 999)) (Yrev : Hid (1 ≤ rev ∧ rev ≤ 999)) (Yos : Hid (1 ≤ os ∧ os ≤ 9)) (Yrs : Hid (rs < 1 ∨ 9 < rs)) (Yid : Hid (1 ≤ id ∧ id ≤ 9999)) : Calls Tryd.prog 26 #[.agg #[.int .i64 id, .int .i64 obv, .int .i64 rev, .int .i64 os, .int .i64 rs, .int .i64 ax, .int .i64 wt]] w (fun e w' => e = .returned (.bool false) ∧ Ext w w') := by
  go_enter Tryd.func26, Tryd.ntmps26
  go_upto_region 1 with (fail)
  have q0 : (w.alloc (.cells #[.int .i64 id, .int .i64 obv, .int .i64 rev, .int .i64 os, .int .i64 rs, .int .i64 ax, .int .i64 wt] 32)).cell? ⟨w.heap.size, 0, none⟩ = some (.int .i64 id) := by simp [go_sem]
  have q1 : (w.alloc (.cells #[.int .i64 id, .int .i64 obv, .int .i64 rev, .int .i64 os, .int .i64 rs, .int .i64 ax, .int .i64 wt] 32)).cell? ⟨w.heap.size, 1, none⟩ = some (.int .i64 obv) := by simp [go_sem]
  have q2 : (w.alloc (.cells #[.int .i64 id, .int .i64 obv, .int .i64 rev, .int .i64 os, .int .i64 rs, .int .i64 ax, .int .i64 wt] 32)).cell? ⟨w.heap.size, 2, none⟩ = some (.int .i64 rev) := by simp [go_sem]
  have q3 : (w.alloc (.cells #[.int .i64 id, .int .i64 obv, .int .i64 rev, .int .i64 os, .int .i64 rs, .int .i64 ax, .int .i64 wt] 32)).cell? ⟨w.heap.size, 3, none⟩ = some (.int .i64 os) := by simp [go_sem]
  have q4 : (w.alloc (.cells #[.int .i64 id, .int .i64 obv, .int .i64 rev, .int .i64 os, .int .i64 rs, .int .i64 ax, .int .i64 wt] 32)).cell? ⟨w.heap.size, 4, none⟩ = some (.int .i64 rs) := by simp [go_sem]
  have q5 : (w.alloc (.cells #[.int .i64 id, .int .i64 obv, .int .i64 rev, .int .i64 os, .int .i64 rs, .int .i64 ax, .int .i64 wt] 32)).cell? ⟨w.heap.size, 5, none⟩ = some (.int .i64 ax) := by simp [go_sem]
  have q6 : (w.alloc (.cells #[.int .i64 id, .int .i64 obv, .int .i64 rev, .int .i64 os, .int .i64 rs, .int .i64 ax, .int .i64 wt] 32)).cell? ⟨w.heap.size, 6, none⟩ = some (.int .i64 wt) := by simp [go_sem]
  have x0 : Ext w (w.alloc (.cells #[.int .i64 id, .int .i64 obv, .int .i64 rev, .int .i64 os, .int .i64 rs, .int .i64 ax, .int .i64 wt] 32)) := ext_alloc (Below.refl _ _) _
  generalize w.alloc (.cells #[.int .i64 id, .int .i64 obv, .int .i64 rev, .int .i64 os, .int .i64 rs, .int .i64 ax, .int .i64 wt] 32) = W0 at *
  go_wp2_with (first
    | (go_at_call 36; (with_reducible refine (rnum_t (n := obv) Yobv.out.1 Yobv.out.2).mono ?_); rintro _ w1 ⟨rfl, hw1⟩; obtain rfl : W0 = w1 := hw1.symm)
    | (go_at_call 36; (with_reducible refine (rnum_t (n := rev) Yrev.out.1 Yrev.out.2).mono ?_); rintro _ w1 ⟨rfl, hw1⟩; obtain rfl : W0 = w1 := hw1.symm)
    | (go_at_call 18; (with_reducible refine (rin_t (n := os) Yos.out.1 Yos.out.2).mono ?_); rintro _ w1 ⟨rfl, hw1⟩; obtain rfl : W0 = w1 := hw1.symm)
    | (go_at_call 18; (with_reducible refine (rin_f (n := rs) Yrs.out).mono ?_); rintro _ w1 ⟨rfl, hw1⟩; obtain rfl : W0 = w1 := hw1.symm)
    | (go_at_call 37; (with_reducible refine (rid_t (n := id) Yid.out.1 Yid.out.2).mono ?_); rintro _ w1 ⟨rfl, hw1⟩; obtain rfl : W0 = w1 := hw1.symm))
  go_ret
  exact ⟨rfl, x0⟩
theorem rspec_3b {id obv rev os rs ax wt : Int} {w : World} (Yobv : Hid (1 ≤ obv ∧ obv ≤ 999)) (Yrev : Hid (1 ≤ rev ∧ rev ≤ 999)) (Yos : Hid (1 ≤ os ∧ os ≤ 9)) (Yrs : Hid (rs < 1 ∨ 9 < rs)) (Yid : Hid (id < 1 ∨ 9999 < id)) : Calls Tryd.prog 26 #[.agg #[.int .i64 id, .int .i64 obv, .int .i64 rev, .int .i64 os, .int .i64 rs, .int .i64 ax, .int .i64 wt]] w (fun e w' => e = .returned (.bool false) ∧ Ext w w') := by
  go_enter Tryd.func26, Tryd.ntmps26
  go_upto_region 1 with (fail)
  have q0 : (w.alloc (.cells #[.int .i64 id, .int .i64 obv, .int .i64 rev, .int .i64 os, .int .i64 rs, .int .i64 ax, .int .i64 wt] 32)).cell? ⟨w.heap.size, 0, none⟩ = some (.int .i64 id) := by simp [go_sem]
  have q1 : (w.alloc (.cells #[.int .i64 id, .int .i64 obv, .int .i64 rev, .int .i64 os, .int .i64 rs, .int .i64 ax, .int .i64 wt] 32)).cell? ⟨w.heap.size, 1, none⟩ = some (.int .i64 obv) := by simp [go_sem]
  have q2 : (w.alloc (.cells #[.int .i64 id, .int .i64 obv, .int .i64 rev, .int .i64 os, .int .i64 rs, .int .i64 ax, .int .i64 wt] 32)).cell? ⟨w.heap.size, 2, none⟩ = some (.int .i64 rev) := by simp [go_sem]
  have q3 : (w.alloc (.cells #[.int .i64 id, .int .i64 obv, .int .i64 rev, .int .i64 os, .int .i64 rs, .int .i64 ax, .int .i64 wt] 32)).cell? ⟨w.heap.size, 3, none⟩ = some (.int .i64 os) := by simp [go_sem]
  have q4 : (w.alloc (.cells #[.int .i64 id, .int .i64 obv, .int .i64 rev, .int .i64 os, .int .i64 rs, .int .i64 ax, .int .i64 wt] 32)).cell? ⟨w.heap.size, 4, none⟩ = some (.int .i64 rs) := by simp [go_sem]
  have q5 : (w.alloc (.cells #[.int .i64 id, .int .i64 obv, .int .i64 rev, .int .i64 os, .int .i64 rs, .int .i64 ax, .int .i64 wt] 32)).cell? ⟨w.heap.size, 5, none⟩ = some (.int .i64 ax) := by simp [go_sem]
  have q6 : (w.alloc (.cells #[.int .i64 id, .int .i64 obv, .int .i64 rev, .int .i64 os, .int .i64 rs, .int .i64 ax, .int .i64 wt] 32)).cell? ⟨w.heap.size, 6, none⟩ = some (.int .i64 wt) := by simp [go_sem]
  have x0 : Ext w (w.alloc (.cells #[.int .i64 id, .int .i64 obv, .int .i64 rev, .int .i64 os, .int .i64 rs, .int .i64 ax, .int .i64 wt] 32)) := ext_alloc (Below.refl _ _) _
  generalize w.alloc (.cells #[.int .i64 id, .int .i64 obv, .int .i64 rev, .int .i64 os, .int .i64 rs, .int .i64 ax, .int .i64 wt] 32) = W0 at *
  go_wp2_with (first
    | (go_at_call 36; (with_reducible refine (rnum_t (n := obv) Yobv.out.1 Yobv.out.2).mono ?_); rintro _ w1 ⟨rfl, hw1⟩; obtain rfl : W0 = w1 := hw1.symm)
    | (go_at_call 36; (with_reducible refine (rnum_t (n := rev) Yrev.out.1 Yrev.out.2).mono ?_); rintro _ w1 ⟨rfl, hw1⟩; obtain rfl : W0 = w1 := hw1.symm)
    | (go_at_call 18; (with_reducible refine (rin_t (n := os) Yos.out.1 Yos.out.2).mono ?_); rintro _ w1 ⟨rfl, hw1⟩; obtain rfl : W0 = w1 := hw1.symm)
    | (go_at_call 18; (with_reducible refine (rin_f (n := rs) Yrs.out).mono ?_); rintro _ w1 ⟨rfl, hw1⟩; obtain rfl : W0 = w1 := hw1.symm)
    | (go_at_call 37; (with_reducible refine (rid_f (n := id) Yid.out).mono ?_); rintro _ w1 ⟨rfl, hw1⟩; obtain rfl : W0 = w1 := hw1.symm))
  go_ret
  exact ⟨rfl, x0⟩
theorem rspec_4 {id obv rev os rs ax wt : Int} {w : World} (Yobv : Hid (1 ≤ obv ∧ obv ≤ 999)) (Yrev : Hid (1 ≤ rev ∧ rev ≤ 999)) (Yos : Hid (1 ≤ os ∧ os ≤ 9)) (Yrs : Hid (1 ≤ rs ∧ rs ≤ 9)) (Yid : Hid (id < 1 ∨ 9999 < id)) : Calls Tryd.prog 26 #[.agg #[.int .i64 id, .int .i64 obv, .int .i64 rev, .int .i64 os, .int .i64 rs, .int .i64 ax, .int .i64 wt]] w (fun e w' => e = .returned (.bool false) ∧ Ext w w') := by
  go_enter Tryd.func26, Tryd.ntmps26
  go_upto_region 1 with (fail)
  have q0 : (w.alloc (.cells #[.int .i64 id, .int .i64 obv, .int .i64 rev, .int .i64 os, .int .i64 rs, .int .i64 ax, .int .i64 wt] 32)).cell? ⟨w.heap.size, 0, none⟩ = some (.int .i64 id) := by simp [go_sem]
  have q1 : (w.alloc (.cells #[.int .i64 id, .int .i64 obv, .int .i64 rev, .int .i64 os, .int .i64 rs, .int .i64 ax, .int .i64 wt] 32)).cell? ⟨w.heap.size, 1, none⟩ = some (.int .i64 obv) := by simp [go_sem]
  have q2 : (w.alloc (.cells #[.int .i64 id, .int .i64 obv, .int .i64 rev, .int .i64 os, .int .i64 rs, .int .i64 ax, .int .i64 wt] 32)).cell? ⟨w.heap.size, 2, none⟩ = some (.int .i64 rev) := by simp [go_sem]
  have q3 : (w.alloc (.cells #[.int .i64 id, .int .i64 obv, .int .i64 rev, .int .i64 os, .int .i64 rs, .int .i64 ax, .int .i64 wt] 32)).cell? ⟨w.heap.size, 3, none⟩ = some (.int .i64 os) := by simp [go_sem]
  have q4 : (w.alloc (.cells #[.int .i64 id, .int .i64 obv, .int .i64 rev, .int .i64 os, .int .i64 rs, .int .i64 ax, .int .i64 wt] 32)).cell? ⟨w.heap.size, 4, none⟩ = some (.int .i64 rs) := by simp [go_sem]
  have q5 : (w.alloc (.cells #[.int .i64 id, .int .i64 obv, .int .i64 rev, .int .i64 os, .int .i64 rs, .int .i64 ax, .int .i64 wt] 32)).cell? ⟨w.heap.size, 5, none⟩ = some (.int .i64 ax) := by simp [go_sem]
  have q6 : (w.alloc (.cells #[.int .i64 id, .int .i64 obv, .int .i64 rev, .int .i64 os, .int .i64 rs, .int .i64 ax, .int .i64 wt] 32)).cell? ⟨w.heap.size, 6, none⟩ = some (.int .i64 wt) := by simp [go_sem]
  have x0 : Ext w (w.alloc (.cells #[.int .i64 id, .int .i64 obv, .int .i64 rev, .int .i64 os, .int .i64 rs, .int .i64 ax, .int .i64 wt] 32)) := ext_alloc (Below.refl _ _) _
  generalize w.alloc (.cells #[.int .i64 id, .int .i64 obv, .int .i64 rev, .int .i64 os, .int .i64 rs, .int .i64 ax, .int .i64 wt] 32) = W0 at *
  go_wp2_with (first
    | (go_at_call 36; (with_reducible refine (rnum_t (n := obv) Yobv.out.1 Yobv.out.2).mono ?_); rintro _ w1 ⟨rfl, hw1⟩; obtain rfl : W0 = w1 := hw1.symm)
    | (go_at_call 36; (with_reducible refine (rnum_t (n := rev) Yrev.out.1 Yrev.out.2).mono ?_); rintro _ w1 ⟨rfl, hw1⟩; obtain rfl : W0 = w1 := hw1.symm)
    | (go_at_call 18; (with_reducible refine (rin_t (n := os) Yos.out.1 Yos.out.2).mono ?_); rintro _ w1 ⟨rfl, hw1⟩; obtain rfl : W0 = w1 := hw1.symm)
    | (go_at_call 18; (with_reducible refine (rin_t (n := rs) Yrs.out.1 Yrs.out.2).mono ?_); rintro _ w1 ⟨rfl, hw1⟩; obtain rfl : W0 = w1 := hw1.symm)
    | (go_at_call 37; (with_reducible refine (rid_f (n := id) Yid.out).mono ?_); rintro _ w1 ⟨rfl, hw1⟩; obtain rfl : W0 = w1 := hw1.symm))
  go_ret
  exact ⟨rfl, x0⟩
theorem rspec_5 {id obv rev os rs ax wt : Int} {w : World} (Yobv : Hid (1 ≤ obv ∧ obv ≤ 999)) (Yrev : Hid (1 ≤ rev ∧ rev ≤ 999)) (Yos : Hid (1 ≤ os ∧ os ≤ 9)) (Yrs : Hid (1 ≤ rs ∧ rs ≤ 9)) (Yid : Hid (1 ≤ id ∧ id ≤ 9999)) (Yax : Hid (ax < 0 ∨ 11 < ax)) : Calls Tryd.prog 26 #[.agg #[.int .i64 id, .int .i64 obv, .int .i64 rev, .int .i64 os, .int .i64 rs, .int .i64 ax, .int .i64 wt]] w (fun e w' => e = .returned (.bool false) ∧ Ext w w') := by
  go_enter Tryd.func26, Tryd.ntmps26
  go_upto_region 1 with (fail)
  have q0 : (w.alloc (.cells #[.int .i64 id, .int .i64 obv, .int .i64 rev, .int .i64 os, .int .i64 rs, .int .i64 ax, .int .i64 wt] 32)).cell? ⟨w.heap.size, 0, none⟩ = some (.int .i64 id) := by simp [go_sem]
  have q1 : (w.alloc (.cells #[.int .i64 id, .int .i64 obv, .int .i64 rev, .int .i64 os, .int .i64 rs, .int .i64 ax, .int .i64 wt] 32)).cell? ⟨w.heap.size, 1, none⟩ = some (.int .i64 obv) := by simp [go_sem]
  have q2 : (w.alloc (.cells #[.int .i64 id, .int .i64 obv, .int .i64 rev, .int .i64 os, .int .i64 rs, .int .i64 ax, .int .i64 wt] 32)).cell? ⟨w.heap.size, 2, none⟩ = some (.int .i64 rev) := by simp [go_sem]
  have q3 : (w.alloc (.cells #[.int .i64 id, .int .i64 obv, .int .i64 rev, .int .i64 os, .int .i64 rs, .int .i64 ax, .int .i64 wt] 32)).cell? ⟨w.heap.size, 3, none⟩ = some (.int .i64 os) := by simp [go_sem]
  have q4 : (w.alloc (.cells #[.int .i64 id, .int .i64 obv, .int .i64 rev, .int .i64 os, .int .i64 rs, .int .i64 ax, .int .i64 wt] 32)).cell? ⟨w.heap.size, 4, none⟩ = some (.int .i64 rs) := by simp [go_sem]
  have q5 : (w.alloc (.cells #[.int .i64 id, .int .i64 obv, .int .i64 rev, .int .i64 os, .int .i64 rs, .int .i64 ax, .int .i64 wt] 32)).cell? ⟨w.heap.size, 5, none⟩ = some (.int .i64 ax) := by simp [go_sem]
  have q6 : (w.alloc (.cells #[.int .i64 id, .int .i64 obv, .int .i64 rev, .int .i64 os, .int .i64 rs, .int .i64 ax, .int .i64 wt] 32)).cell? ⟨w.heap.size, 6, none⟩ = some (.int .i64 wt) := by simp [go_sem]
  have x0 : Ext w (w.alloc (.cells #[.int .i64 id, .int .i64 obv, .int .i64 rev, .int .i64 os, .int .i64 rs, .int .i64 ax, .int .i64 wt] 32)) := ext_alloc (Below.refl _ _) _
  generalize w.alloc (.cells #[.int .i64 id, .int .i64 obv, .int .i64 rev, .int .i64 os, .int .i64 rs, .int .i64 ax, .int .i64 wt] 32) = W0 at *
  go_wp2_with (first
    | (go_at_call 36; (with_reducible refine (rnum_t (n := obv) Yobv.out.1 Yobv.out.2).mono ?_); rintro _ w1 ⟨rfl, hw1⟩; obtain rfl : W0 = w1 := hw1.symm)
    | (go_at_call 36; (with_reducible refine (rnum_t (n := rev) Yrev.out.1 Yrev.out.2).mono ?_); rintro _ w1 ⟨rfl, hw1⟩; obtain rfl : W0 = w1 := hw1.symm)
    | (go_at_call 18; (with_reducible refine (rin_t (n := os) Yos.out.1 Yos.out.2).mono ?_); rintro _ w1 ⟨rfl, hw1⟩; obtain rfl : W0 = w1 := hw1.symm)
    | (go_at_call 18; (with_reducible refine (rin_t (n := rs) Yrs.out.1 Yrs.out.2).mono ?_); rintro _ w1 ⟨rfl, hw1⟩; obtain rfl : W0 = w1 := hw1.symm)
    | (go_at_call 37; (with_reducible refine (rid_t (n := id) Yid.out.1 Yid.out.2).mono ?_); rintro _ w1 ⟨rfl, hw1⟩; obtain rfl : W0 = w1 := hw1.symm)
    | (go_at_call 18; (with_reducible refine (rin_f (n := ax) Yax.out).mono ?_); rintro _ w1 ⟨rfl, hw1⟩; obtain rfl : W0 = w1 := hw1.symm))
  go_ret
  exact ⟨rfl, x0⟩
theorem rspec_6 {id obv rev os rs ax wt : Int} {w : World} (Yobv : Hid (1 ≤ obv ∧ obv ≤ 999)) (Yrev : Hid (1 ≤ rev ∧ rev ≤ 999)) (Yos : Hid (1 ≤ os ∧ os ≤ 9)) (Yrs : Hid (1 ≤ rs ∧ rs ≤ 9)) (Yid : Hid (1 ≤ id ∧ id ≤ 9999)) (Yax : Hid (0 ≤ ax ∧ ax ≤ 11)) (Ywt : Hid (wt < 1 ∨ 200000 < wt)) : Calls Tryd.prog 26 #[.agg #[.int .i64 id, .int .i64 obv, .int .i64 rev, .int .i64 os, .int .i64 rs, .int .i64 ax, .int .i64 wt]] w (fun e w' => e = .returned (.bool false) ∧ Ext w w') := by
  go_enter Tryd.func26, Tryd.ntmps26
  go_upto_region 1 with (fail)
  have q0 : (w.alloc (.cells #[.int .i64 id, .int .i64 obv, .int .i64 rev, .int .i64 os, .int .i64 rs, .int .i64 ax, .int .i64 wt] 32)).cell? ⟨w.heap.size, 0, none⟩ = some (.int .i64 id) := by simp [go_sem]
  have q1 : (w.alloc (.cells #[.int .i64 id, .int .i64 obv, .int .i64 rev, .int .i64 os, .int .i64 rs, .int .i64 ax, .int .i64 wt] 32)).cell? ⟨w.heap.size, 1, none⟩ = some (.int .i64 obv) := by simp [go_sem]
  have q2 : (w.alloc (.cells #[.int .i64 id, .int .i64 obv, .int .i64 rev, .int .i64 os, .int .i64 rs, .int .i64 ax, .int .i64 wt] 32)).cell? ⟨w.heap.size, 2, none⟩ = some (.int .i64 rev) := by simp [go_sem]
  have q3 : (w.alloc (.cells #[.int .i64 id, .int .i64 obv, .int .i64 rev, .int .i64 os, .int .i64 rs, .int .i64 ax, .int .i64 wt] 32)).cell? ⟨w.heap.size, 3, none⟩ = some (.int .i64 os) := by simp [go_sem]
  have q4 : (w.alloc (.cells #[.int .i64 id, .int .i64 obv, .int .i64 rev, .int .i64 os, .int .i64 rs, .int .i64 ax, .int .i64 wt] 32)).cell? ⟨w.heap.size, 4, none⟩ = some (.int .i64 rs) := by simp [go_sem]
  have q5 : (w.alloc (.cells #[.int .i64 id, .int .i64 obv, .int .i64 rev, .int .i64 os, .int .i64 rs, .int .i64 ax, .int .i64 wt] 32)).cell? ⟨w.heap.size, 5, none⟩ = some (.int .i64 ax) := by simp [go_sem]
  have q6 : (w.alloc (.cells #[.int .i64 id, .int .i64 obv, .int .i64 rev, .int .i64 os, .int .i64 rs, .int .i64 ax, .int .i64 wt] 32)).cell? ⟨w.heap.size, 6, none⟩ = some (.int .i64 wt) := by simp [go_sem]
  have x0 : Ext w (w.alloc (.cells #[.int .i64 id, .int .i64 obv, .int .i64 rev, .int .i64 os, .int .i64 rs, .int .i64 ax, .int .i64 wt] 32)) := ext_alloc (Below.refl _ _) _
  generalize w.alloc (.cells #[.int .i64 id, .int .i64 obv, .int .i64 rev, .int .i64 os, .int .i64 rs, .int .i64 ax, .int .i64 wt] 32) = W0 at *
  go_wp2_with (first
    | (go_at_call 36; (with_reducible refine (rnum_t (n := obv) Yobv.out.1 Yobv.out.2).mono ?_); rintro _ w1 ⟨rfl, hw1⟩; obtain rfl : W0 = w1 := hw1.symm)
    | (go_at_call 36; (with_reducible refine (rnum_t (n := rev) Yrev.out.1 Yrev.out.2).mono ?_); rintro _ w1 ⟨rfl, hw1⟩; obtain rfl : W0 = w1 := hw1.symm)
    | (go_at_call 18; (with_reducible refine (rin_t (n := os) Yos.out.1 Yos.out.2).mono ?_); rintro _ w1 ⟨rfl, hw1⟩; obtain rfl : W0 = w1 := hw1.symm)
    | (go_at_call 18; (with_reducible refine (rin_t (n := rs) Yrs.out.1 Yrs.out.2).mono ?_); rintro _ w1 ⟨rfl, hw1⟩; obtain rfl : W0 = w1 := hw1.symm)
    | (go_at_call 37; (with_reducible refine (rid_t (n := id) Yid.out.1 Yid.out.2).mono ?_); rintro _ w1 ⟨rfl, hw1⟩; obtain rfl : W0 = w1 := hw1.symm)
    | (go_at_call 18; (with_reducible refine (rin_t (n := ax) Yax.out.1 Yax.out.2).mono ?_); rintro _ w1 ⟨rfl, hw1⟩; obtain rfl : W0 = w1 := hw1.symm)
    | (go_at_call 18; (with_reducible refine (rin_f (n := wt) Ywt.out).mono ?_); rintro _ w1 ⟨rfl, hw1⟩; obtain rfl : W0 = w1 := hw1.symm))
  go_ret
  exact ⟨rfl, x0⟩
theorem rspec_7 {id obv rev os rs ax wt : Int} {w : World} (Yobv : Hid (1 ≤ obv ∧ obv ≤ 999)) (Yrev : Hid (1 ≤ rev ∧ rev ≤ 999)) (Yos : Hid (1 ≤ os ∧ os ≤ 9)) (Yrs : Hid (1 ≤ rs ∧ rs ≤ 9)) (Yid : Hid (1 ≤ id ∧ id ≤ 9999)) (Yax : Hid (0 ≤ ax ∧ ax ≤ 11)) (Ywt : Hid (1 ≤ wt ∧ wt ≤ 200000)) : Calls Tryd.prog 26 #[.agg #[.int .i64 id, .int .i64 obv, .int .i64 rev, .int .i64 os, .int .i64 rs, .int .i64 ax, .int .i64 wt]] w (fun e w' => e = .returned (.bool true) ∧ Ext w w') := by
  go_enter Tryd.func26, Tryd.ntmps26
  go_upto_region 1 with (fail)
  have q0 : (w.alloc (.cells #[.int .i64 id, .int .i64 obv, .int .i64 rev, .int .i64 os, .int .i64 rs, .int .i64 ax, .int .i64 wt] 32)).cell? ⟨w.heap.size, 0, none⟩ = some (.int .i64 id) := by simp [go_sem]
  have q1 : (w.alloc (.cells #[.int .i64 id, .int .i64 obv, .int .i64 rev, .int .i64 os, .int .i64 rs, .int .i64 ax, .int .i64 wt] 32)).cell? ⟨w.heap.size, 1, none⟩ = some (.int .i64 obv) := by simp [go_sem]
  have q2 : (w.alloc (.cells #[.int .i64 id, .int .i64 obv, .int .i64 rev, .int .i64 os, .int .i64 rs, .int .i64 ax, .int .i64 wt] 32)).cell? ⟨w.heap.size, 2, none⟩ = some (.int .i64 rev) := by simp [go_sem]
  have q3 : (w.alloc (.cells #[.int .i64 id, .int .i64 obv, .int .i64 rev, .int .i64 os, .int .i64 rs, .int .i64 ax, .int .i64 wt] 32)).cell? ⟨w.heap.size, 3, none⟩ = some (.int .i64 os) := by simp [go_sem]
  have q4 : (w.alloc (.cells #[.int .i64 id, .int .i64 obv, .int .i64 rev, .int .i64 os, .int .i64 rs, .int .i64 ax, .int .i64 wt] 32)).cell? ⟨w.heap.size, 4, none⟩ = some (.int .i64 rs) := by simp [go_sem]
  have q5 : (w.alloc (.cells #[.int .i64 id, .int .i64 obv, .int .i64 rev, .int .i64 os, .int .i64 rs, .int .i64 ax, .int .i64 wt] 32)).cell? ⟨w.heap.size, 5, none⟩ = some (.int .i64 ax) := by simp [go_sem]
  have q6 : (w.alloc (.cells #[.int .i64 id, .int .i64 obv, .int .i64 rev, .int .i64 os, .int .i64 rs, .int .i64 ax, .int .i64 wt] 32)).cell? ⟨w.heap.size, 6, none⟩ = some (.int .i64 wt) := by simp [go_sem]
  have x0 : Ext w (w.alloc (.cells #[.int .i64 id, .int .i64 obv, .int .i64 rev, .int .i64 os, .int .i64 rs, .int .i64 ax, .int .i64 wt] 32)) := ext_alloc (Below.refl _ _) _
  generalize w.alloc (.cells #[.int .i64 id, .int .i64 obv, .int .i64 rev, .int .i64 os, .int .i64 rs, .int .i64 ax, .int .i64 wt] 32) = W0 at *
  go_wp2_with (first
    | (go_at_call 36; (with_reducible refine (rnum_t (n := obv) Yobv.out.1 Yobv.out.2).mono ?_); rintro _ w1 ⟨rfl, hw1⟩; obtain rfl : W0 = w1 := hw1.symm)
    | (go_at_call 36; (with_reducible refine (rnum_t (n := rev) Yrev.out.1 Yrev.out.2).mono ?_); rintro _ w1 ⟨rfl, hw1⟩; obtain rfl : W0 = w1 := hw1.symm)
    | (go_at_call 18; (with_reducible refine (rin_t (n := os) Yos.out.1 Yos.out.2).mono ?_); rintro _ w1 ⟨rfl, hw1⟩; obtain rfl : W0 = w1 := hw1.symm)
    | (go_at_call 18; (with_reducible refine (rin_t (n := rs) Yrs.out.1 Yrs.out.2).mono ?_); rintro _ w1 ⟨rfl, hw1⟩; obtain rfl : W0 = w1 := hw1.symm)
    | (go_at_call 37; (with_reducible refine (rid_t (n := id) Yid.out.1 Yid.out.2).mono ?_); rintro _ w1 ⟨rfl, hw1⟩; obtain rfl : W0 = w1 := hw1.symm)
    | (go_at_call 18; (with_reducible refine (rin_t (n := ax) Yax.out.1 Yax.out.2).mono ?_); rintro _ w1 ⟨rfl, hw1⟩; obtain rfl : W0 = w1 := hw1.symm)
    | (go_at_call 18; (with_reducible refine (rin_t (n := wt) Ywt.out.1 Ywt.out.2).mono ?_); rintro _ w1 ⟨rfl, hw1⟩; obtain rfl : W0 = w1 := hw1.symm))
  go_ret
  exact ⟨rfl, x0⟩

def Sp.val (s : Sp) : Value := .agg #[.int .i64 s.id, .int .i64 s.obv, .int .i64 s.rev, .int .i64 s.os, .int .i64 s.rs, .int .i64 s.ax, .int .i64 s.wt]
theorem svalid_t {s : Sp} {w : World} (h : s.Ok) : Calls Tryd.prog 24 #[.agg #[.int .i64 s.id, .int .i64 s.obv, .int .i64 s.rev, .int .i64 s.os, .int .i64 s.rs, .int .i64 s.ax, .int .i64 s.wt]] w (fun e w' => e = .returned (.bool true) ∧ Ext w w') := by
  obtain ⟨h1, h2, h3, h4, h5, h6, h7⟩ := h
  exact svalid_7 (Lib.hid h1) (Lib.hid h2) (Lib.hid h3) (Lib.hid h4) (Lib.hid h5) (Lib.hid h6) (Lib.hid h7)
theorem rspec_t {s : Sp} {w : World} (h : s.Ok) : Calls Tryd.prog 26 #[.agg #[.int .i64 s.id, .int .i64 s.obv, .int .i64 s.rev, .int .i64 s.os, .int .i64 s.rs, .int .i64 s.ax, .int .i64 s.wt]] w (fun e w' => e = .returned (.bool true) ∧ Ext w w') := by
  obtain ⟨h1, h2, h3, h4, h5, h6, h7⟩ := h
  exact rspec_7 (Lib.hid h1) (Lib.hid h2) (Lib.hid h3) (Lib.hid h4) (Lib.hid h5) (Lib.hid h6) (Lib.hid h7)
theorem svalid_f {s : Sp} {w : World} (h : ¬ s.Ok) : Calls Tryd.prog 24 #[.agg #[.int .i64 s.id, .int .i64 s.obv, .int .i64 s.rev, .int .i64 s.os, .int .i64 s.rs, .int .i64 s.ax, .int .i64 s.wt]] w (fun e w' => e = .returned (.bool false) ∧ Ext w w') := by
  by_cases h0 : 1 ≤ s.obv ∧ s.obv ≤ 999
  · by_cases h1 : 1 ≤ s.rev ∧ s.rev ≤ 999
    · by_cases h2 : 1 ≤ s.os ∧ s.os ≤ 9
      · by_cases h3 : 1 ≤ s.rs ∧ s.rs ≤ 9
        · by_cases h4 : 1 ≤ s.id ∧ s.id ≤ 9999
          · by_cases h5 : 0 ≤ s.ax ∧ s.ax ≤ 11
            · by_cases h6 : 1 ≤ s.wt ∧ s.wt ≤ 200000
              · exact absurd ⟨h0, h1, h2, h3, h4, h5, h6⟩ h
              · exact svalid_6 (Lib.hid h0) (Lib.hid h1) (Lib.hid h2) (Lib.hid h3) (Lib.hid h4) (Lib.hid h5) (Lib.hid (show s.wt < 1 ∨ 200000 < s.wt from by omega))
            · exact svalid_5 (Lib.hid h0) (Lib.hid h1) (Lib.hid h2) (Lib.hid h3) (Lib.hid h4) (Lib.hid (show s.ax < 0 ∨ 11 < s.ax from by omega))
          · exact svalid_4 (Lib.hid h0) (Lib.hid h1) (Lib.hid h2) (Lib.hid h3) (Lib.hid (show s.id < 1 ∨ 9999 < s.id from by omega))
        · exact svalid_3 (Lib.hid h0) (Lib.hid h1) (Lib.hid h2) (Lib.hid (show s.rs < 1 ∨ 9 < s.rs from by omega))
      · exact svalid_2 (Lib.hid h0) (Lib.hid h1) (Lib.hid (show s.os < 1 ∨ 9 < s.os from by omega))
    · exact svalid_1 (Lib.hid h0) (Lib.hid (show s.rev < 1 ∨ 999 < s.rev from by omega))
  · exact svalid_0  (Lib.hid (show s.obv < 1 ∨ 999 < s.obv from by omega))
theorem rspec_f {s : Sp} {w : World} (h : ¬ s.Ok) : Calls Tryd.prog 26 #[.agg #[.int .i64 s.id, .int .i64 s.obv, .int .i64 s.rev, .int .i64 s.os, .int .i64 s.rs, .int .i64 s.ax, .int .i64 s.wt]] w (fun e w' => e = .returned (.bool false) ∧ Ext w w') := by
  by_cases h0 : 1 ≤ s.obv ∧ s.obv ≤ 999
  · by_cases h1 : 1 ≤ s.rev ∧ s.rev ≤ 999
    · by_cases h2 : 1 ≤ s.os ∧ s.os ≤ 9
      · by_cases h3 : 1 ≤ s.rs ∧ s.rs ≤ 9
        · by_cases h4 : 1 ≤ s.id ∧ s.id ≤ 9999
          · by_cases h5 : 0 ≤ s.ax ∧ s.ax ≤ 11
            · by_cases h6 : 1 ≤ s.wt ∧ s.wt ≤ 200000
              · exact absurd ⟨h0, h1, h2, h3, h4, h5, h6⟩ h
              · exact rspec_6 (Lib.hid h0) (Lib.hid h1) (Lib.hid h2) (Lib.hid h3) (Lib.hid h4) (Lib.hid h5) (Lib.hid (show s.wt < 1 ∨ 200000 < s.wt from by omega))
            · exact rspec_5 (Lib.hid h0) (Lib.hid h1) (Lib.hid h2) (Lib.hid h3) (Lib.hid h4) (Lib.hid (show s.ax < 0 ∨ 11 < s.ax from by omega))
          · exact rspec_4 (Lib.hid h0) (Lib.hid h1) (Lib.hid h2) (Lib.hid h3) (Lib.hid (show s.id < 1 ∨ 9999 < s.id from by omega))
        · by_cases hid : 1 ≤ s.id ∧ s.id ≤ 9999
          · exact rspec_3a (Lib.hid h0) (Lib.hid h1) (Lib.hid h2) (Lib.hid (show s.rs < 1 ∨ 9 < s.rs from by omega)) (Lib.hid hid)
          · exact rspec_3b (Lib.hid h0) (Lib.hid h1) (Lib.hid h2) (Lib.hid (show s.rs < 1 ∨ 9 < s.rs from by omega)) (Lib.hid (show s.id < 1 ∨ 9999 < s.id from by omega))
      · by_cases hid : 1 ≤ s.id ∧ s.id ≤ 9999
        · exact rspec_2a (Lib.hid h0) (Lib.hid h1) (Lib.hid (show s.os < 1 ∨ 9 < s.os from by omega)) (Lib.hid hid)
        · exact rspec_2b (Lib.hid h0) (Lib.hid h1) (Lib.hid (show s.os < 1 ∨ 9 < s.os from by omega)) (Lib.hid (show s.id < 1 ∨ 9999 < s.id from by omega))
    · by_cases hid : 1 ≤ s.id ∧ s.id ≤ 9999
      · exact rspec_1a (Lib.hid h0) (Lib.hid (show s.rev < 1 ∨ 999 < s.rev from by omega)) (Lib.hid hid)
      · exact rspec_1b (Lib.hid h0) (Lib.hid (show s.rev < 1 ∨ 999 < s.rev from by omega)) (Lib.hid (show s.id < 1 ∨ 9999 < s.id from by omega))
  · by_cases hid : 1 ≤ s.id ∧ s.id ≤ 9999
    · exact rspec_0a  (Lib.hid (show s.obv < 1 ∨ 999 < s.obv from by omega)) (Lib.hid hid)
    · exact rspec_0b  (Lib.hid (show s.obv < 1 ∨ 999 < s.obv from by omega)) (Lib.hid (show s.id < 1 ∨ 9999 < s.id from by omega))

end Go.Proofs.YtfnngchanhnaiaaDoor
