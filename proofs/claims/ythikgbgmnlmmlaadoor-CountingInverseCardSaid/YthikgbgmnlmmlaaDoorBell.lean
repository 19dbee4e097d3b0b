/- Surjections and Bell, of both. -/
import Derived.Test.YthikgbgmnlmmlaaDoorProd
set_option linter.unusedVariables false
set_option linter.unusedSimpArgs false
set_option maxRecDepth 100000
namespace Go.Proofs.YthikgbgmnlmmlaaDoor
open Go.RowKit Num

def sjV (n k : Int) : Nat := if (0 ≤ n ∧ n ≤ 64) ∧ (0 ≤ k ∧ k ≤ 64) then stir n.toNat k.toNat * fact k.toNat else 0
def blV (n : Int) : Nat := if 0 ≤ n ∧ n ≤ 64 then sumTo (stir n.toNat) (n.toNat + 1) else 0

theorem sum_le {n : Nat} : ∀ k, k ≤ 65 → sumTo (stir n) k ≤ k * 66 ^ n := by
  intro k
  induction k with
  | zero => intro _; simp [sumTo]
  | succ k ih =>
    intro hk
    have h1 := ih (by omega)
    have h2 : stir n k ≤ 66 ^ n := Nat.le_trans (stir_le n k) (Nat.pow_le_pow_left (by omega) n)
    rw [sumTo_succ, Nat.add_mul]
    omega
theorem sum_len {n k : Nat} (hk : k ≤ 65) : (limbsOf (sumTo (stir n) k)).length ≤ n + 2 := by
  refine len_of_le_pow (n := n + 1) (b := 66) ?_ (by omega)
  have h1 := sum_le (n := n) k hk
  have h2 : k * 66 ^ n ≤ 66 * 66 ^ n := Nat.mul_le_mul_right _ (by omega)
  rw [Nat.pow_succ, Nat.mul_comm (66 ^ n)]
  omega

set_option maxHeartbeats 1000000 in
theorem csj_bad {n k : Int} {w : World} (h' : (n < 0 ∨ 64 < n) ∨ (0 ≤ n ∧ n ≤ 64) ∧ (k < 0 ∨ 64 < k)) :
    Calls Tryd.prog 31 #[.int .i64 n, .int .i64 k] w (GivesT w 0 2) := by
  rcases h' with h' | ⟨h1, h'⟩
  all_goals
    go_enter Tryd.func31, Tryd.ntmps31
    go_wp2_with (first | (go_at_call 40; (with_reducible refine (within_t h1).mono ?_); rintro e w1 ⟨rfl, rfl⟩) | (go_at_call 40; (with_reducible refine (within_f h').mono ?_); rintro e w1 ⟨rfl, rfl⟩))
    refine bodyPost_ret (v := .tuple #[.agg #[.slice none 0 0], .int .i64 2]) (by simp [results, Tryd.results31, go_sem]) rfl ?_
    exact GivesT.zero

theorem csj_st {n k : Nat} {w : World} (hn : n ≤ 64) : Calls Tryd.prog 19 #[.int .i64 n, .int .i64 k] w (GivesT w (stir n k) 0) := by
  by_cases h : n < k
  · rw [stir_gt _ _ h]; exact cstir_out hn (.inr (by omega))
  · exact cstir_in hn (by omega)
theorem rsj_st {n k : Nat} {w : World} (hn : n ≤ 64) : Calls Tryd.prog 30 #[.int .i64 n, .int .i64 k] w (GivesT w (stir n k) 0) := by
  by_cases h : n < k
  · rw [stir_gt _ _ h]; exact rstir_out hn (.inr (by omega))
  · exact rstir_in hn (by omega)

set_option maxHeartbeats 1000000 in
theorem csj_in {n k : Nat} {w : World} (hn : n ≤ 64) (hk : k ≤ 64) :
    Calls Tryd.prog 31 #[.int .i64 n, .int .i64 k] w (GivesT w (stir n k * fact k) 0) := by
  have h1 : (0 : Int) ≤ n ∧ (n : Int) ≤ 64 := by omega
  have h2 : (0 : Int) ≤ k ∧ (k : Int) ≤ 64 := by omega
  have HF := Lib.hid (fun w => falling_n (n := k) (k := k) (w := w) (by omega) (by omega))
  have HS := Lib.hid (fun w => csj_st (k := k) (w := w) hn)
  have HB1 := Lib.hid (stir_len (n := n) (k := k) (by omega))
  have HB2 := Lib.hid (fact_len k (by omega))
  rw [fall_self] at HF
  go_enter Tryd.func31, Tryd.ntmps31
  go_wp2_with (first
    | (go_at_call 40; (with_reducible refine (within_t h1).mono ?_); rintro e w1 ⟨rfl, rfl⟩)
    | (go_at_call 40; (with_reducible refine (within_t h2).mono ?_); rintro e w1 ⟨rfl, rfl⟩))
  refine (HS.out _).mono ?_
  rintro e w1 ⟨A1, k1, c1, rfl, y1, x1, n1⟩
  obtain ⟨z1, zf1⟩ := box_new x1
  have hE := ext_new x1
  have hs1 : w.heap.size < w1.heap.size := by have := x1.size; simp at this; omega
  clear x1 n1
  go_upto_region 4 with (fail)
  have p1 := y1.alloc (.cells #[.slice A1 k1 c1] 25)
  have hb : (w1.alloc (.cells #[.slice A1 k1 c1] 25)).cell? ⟨w1.heap.size, 0, none⟩ = some (.slice A1 k1 c1) := by simp [go_sem]
  have hE2 := ext_alloc hE (.cells #[.slice A1 k1 c1] 25)
  have z2 := ((ext_alloc (Below.refl _ w1) (.cells #[.slice A1 k1 c1] 25)).cell (p := ⟨w.heap.size, 0, none⟩) hs1).trans z1
  have zf2 := ((ext_alloc (Below.refl _ w1) (.cells #[.slice A1 k1 c1] 25)).frozen (p := ⟨w.heap.size, 0, none⟩) hs1).trans zf1
  have hs2 : w.heap.size < (w1.alloc (.cells #[.slice A1 k1 c1] 25)).heap.size := by simp; omega
  clear y1 hE z1 zf1
  generalize w1.alloc (.cells #[.slice A1 k1 c1] 25) = W1 at *
  have HW := Lib.hid (fun (w' : World) (h : Ext W1 w') => (⟨(h.cell (p := ⟨w1.heap.size, 0, none⟩) (World.block_lt_of_cell? _ _ hb)).trans hb, (h.cell (p := ⟨w.heap.size, 0, none⟩) hs2).trans z2, (h.frozen (p := ⟨w.heap.size, 0, none⟩) hs2).trans zf2⟩ : w'.cell? ⟨w1.heap.size, 0, none⟩ = some (.slice A1 k1 c1) ∧ w'.cell? ⟨w.heap.size, 0, none⟩ = some (.slice none 0 0) ∧ w'.frozen? ⟨w.heap.size, 0, none⟩ = false))
  have HN := Lib.hid (CanV.nat p1 (by have := HB1.out; unfold Fit; omega))
  go_region_law (first
    | (go_simp; go_at_call 51; (with_reducible refine (HF.out _).mono ?_); rintro e w5 ⟨A5, k5, c5, rfl, h5, x5, n5⟩; have e5 : Ext W1 w5 := Ext.trans (by repeat first | assumption | exact Below.refl _ _ | refine ext_alloc ?_ _ | refine ext_drew ?_ | refine ext_set ?_ (by first | omega | (simp; done) | (simp; omega)) _) x5; obtain ⟨cc5, dd5, ff5⟩ := HW.out _ e5)
    | (go_simp; go_at_call 24; (with_reducible refine (mul_n (NatV.below HN.out (by repeat first | assumption | exact Below.refl _ _ | refine ext_alloc ?_ _ | refine ext_drew ?_ | refine ext_set ?_ (by first | omega | (simp; done) | (simp; omega)) _)) (NatV.below (CanV.nat h5 (by have := HB2.out; unfold Fit; omega)) (by repeat first | assumption | exact Below.refl _ _ | refine ext_alloc ?_ _ | refine ext_drew ?_ | refine ext_set ?_ (by first | omega | (simp; done) | (simp; omega)) _)) (by have := HB1.out; have := HB2.out; omega)).mono ?_); rintro e w6 ⟨A6, k6, c6, rfl, h6, x6, n6⟩; have e6 : Ext W1 w6 := Ext.trans (by repeat first | assumption | exact Below.refl _ _ | refine ext_alloc ?_ _ | refine ext_drew ?_ | refine ext_set ?_ (by first | omega | (simp; done) | (simp; omega)) _) x6; obtain ⟨cc6, dd6, ff6⟩ := HW.out _ e6; have y6 := x6.size; have y5 := e5.size; (try simp at y6)))
  all_goals
    go_wp2
    refine bodyPost_ret (v := .tuple #[.agg #[.slice A6 k6 c6], .int .i64 0]) (by simp [results, Tryd.results31, go_sem, World.cell?_setCell_same _ _ _ dd6]) rfl ?_
    exact GivesT.box (hE2.trans e6) h6 (n6.mono (by omega))

theorem csj_any {n k : Int} {w : World} : Calls Tryd.prog 31 #[.int .i64 n, .int .i64 k] w (GivesT w (sjV n k) (okE ((0 ≤ n ∧ n ≤ 64) ∧ (0 ≤ k ∧ k ≤ 64)))) := by
  unfold sjV okE
  by_cases h : (0 ≤ n ∧ n ≤ 64) ∧ (0 ≤ k ∧ k ≤ 64)
  · rw [if_pos h, if_pos h]
    obtain ⟨m, rfl⟩ : ∃ m : Nat, n = m := ⟨n.toNat, by omega⟩
    obtain ⟨j, rfl⟩ : ∃ m : Nat, k = m := ⟨k.toNat, by omega⟩
    rw [Int.toNat_natCast, Int.toNat_natCast]
    exact csj_in (by omega) (by omega)
  · rw [if_neg h, if_neg h]; exact csj_bad (by omega)

set_option maxHeartbeats 1000000 in
theorem rsj_bad {n k : Int} {w : World} (h' : (n < 0 ∨ 64 < n) ∨ (0 ≤ n ∧ n ≤ 64) ∧ (k < 0 ∨ 64 < k)) :
    Calls Tryd.prog 32 #[.int .i64 n, .int .i64 k] w (GivesT w 0 2) := by
  rcases h' with (h' | h') | ⟨⟨h1, h2⟩, (h' | h')⟩
  all_goals
    go_enter Tryd.func32, Tryd.ntmps32
    go_wp2
    refine bodyPost_ret (v := .tuple #[.agg #[.slice none 0 0], .int .i64 2]) (by simp [results, Tryd.results32, go_sem]) rfl ?_
    exact GivesT.zero

set_option maxHeartbeats 1000000 in
theorem rsj_in {n k : Nat} {w : World} (hn : n ≤ 64) (hk : k ≤ 64) :
    Calls Tryd.prog 32 #[.int .i64 n, .int .i64 k] w (GivesT w (stir n k * fact k) 0) := by
  have HF := Lib.hid (fun w => rfac_in (n := k) (w := w) (by omega))
  have HS := Lib.hid (fun w => rsj_st (k := k) (w := w) hn)
  have HB1 := Lib.hid (stir_len (n := n) (k := k) (by omega))
  have HB2 := Lib.hid (fact_len k (by omega))
  go_enter Tryd.func32, Tryd.ntmps32
  go_wp2_with fail
  refine (HF.out _).mono ?_
  rintro e w1 ⟨A1, k1, c1, rfl, y1, x1, n1⟩
  obtain ⟨z1, zf1⟩ := box_new x1
  have hE := ext_new x1
  have hs1 : w.heap.size < w1.heap.size := by have := x1.size; simp at this; omega
  clear x1 n1
  go_wp2_with fail
  have p1 := y1.alloc (.cells #[.slice A1 k1 c1] 25)
  refine (HS.out _).mono ?_
  rintro e w2 ⟨A2, k2, c2, rfl, y2, x2, n2⟩
  obtain ⟨b1, _⟩ := box_new x2
  have e2 := ext_new x2
  have p2 := CanV.below p1 x2
  have z2 := (e2.cell (p := ⟨w.heap.size, 0, none⟩) hs1).trans z1
  have zf2 := (e2.frozen (p := ⟨w.heap.size, 0, none⟩) hs1).trans zf1
  have hE2 := hE.trans e2
  have hs2 : w1.heap.size < w2.heap.size := World.block_lt_of_cell? _ _ b1
  clear x2 n2 p1 z1 zf1 e2 hE
  go_wp2_with fail
  refine (rmul_n (NatV.alloc (CanV.nat p2 (by have := HB2.out; unfold Fit; omega)) _) (NatV.alloc (CanV.nat y2 (by have := HB1.out; unfold Fit; omega)) _) (by have := HB1.out; have := HB2.out; omega)).mono ?_
  rintro e w3 ⟨A3, k3, c3, rfl, y3, x3, n3⟩
  have e3 := ext_new x3
  have z3 := (e3.cell (p := ⟨w.heap.size, 0, none⟩) (World.block_lt_of_cell? _ _ z2)).trans z2
  have zf3 := (e3.frozen (p := ⟨w.heap.size, 0, none⟩) (World.block_lt_of_cell? _ _ z2)).trans zf2
  simp at n3
  rw [Nat.mul_comm] at y3
  go_wp2
  refine bodyPost_ret (v := .tuple #[.agg #[.slice A3 k3 c3], .int .i64 0]) (by simp [results, Tryd.results32, go_sem, World.cell?_setCell_same _ _ _ z3]) rfl ?_
  exact GivesT.box (hE2.trans e3) y3 (n3.mono (by omega))

theorem rsj_any {n k : Int} {w : World} : Calls Tryd.prog 32 #[.int .i64 n, .int .i64 k] w (GivesT w (sjV n k) (okE ((0 ≤ n ∧ n ≤ 64) ∧ (0 ≤ k ∧ k ≤ 64)))) := by
  unfold sjV okE
  by_cases h : (0 ≤ n ∧ n ≤ 64) ∧ (0 ≤ k ∧ k ≤ 64)
  · rw [if_pos h, if_pos h]
    obtain ⟨m, rfl⟩ : ∃ m : Nat, n = m := ⟨n.toNat, by omega⟩
    obtain ⟨j, rfl⟩ : ∃ m : Nat, k = m := ⟨k.toNat, by omega⟩
    rw [Int.toNat_natCast, Int.toNat_natCast]
    exact rsj_in (by omega) (by omega)
  · rw [if_neg h, if_neg h]; exact rsj_bad (by omega)

end Go.Proofs.YthikgbgmnlmmlaaDoor
