/- ref03: Factorial, Falling. -/
import Derived.Test.YthikgbgmnlmmlaaDoorPick
set_option linter.unusedVariables false
set_option linter.unusedSimpArgs false
set_option maxRecDepth 100000
namespace Go.Proofs.YthikgbgmnlmmlaaDoor
open Go.RowKit Num

theorem rfac_bad {n : Int} {w : World} (h' : n < 0 ∨ 200 < n) :
    Calls Tryd.prog 26 #[.int .i64 n] w (GivesT w 0 2) := by
  rcases h' with h' | h'
  all_goals
    go_enter Tryd.func26, Tryd.ntmps26
    go_wp2
    refine bodyPost_ret (v := .tuple #[.agg #[.slice none 0 0], .int .i64 2]) (by simp [results, Tryd.results26, go_sem]) rfl ?_
    exact GivesT.zero

set_option maxHeartbeats 1000000 in
theorem rfac_in {n : Nat} {w : World} (hn : n ≤ 200) :
    Calls Tryd.prog 26 #[.int .i64 n] w (GivesT w (fact n) 0) := by
  go_enter Tryd.func26, Tryd.ntmps26
  go_wp2_with (go_at_call 52; (with_reducible refine (rcof_e (m := 1) (by omega) (by omega)).mono ?_); rintro e w1 ⟨A1, k1, c1, rfl, h1, x1, n1⟩)
  obtain ⟨z1, zf1⟩ := box_new x1
  have hE := ext_new x1
  simp at n1
  have hs1 : w.heap.size < w1.heap.size := by have := x1.size; simp at this; omega
  clear x1
  go_loopw [5] (fun iv wr => ∃ (i : Nat), 1 ≤ i ∧ (i ≤ n ∨ i ≤ 1) ∧ iv = .int .i64 ((i : Int) + 1) ∧ OutB w1 w1.heap.size (w.heap.size + 1) (fact i) wr) (fun iv _ => n + 1 - (intOf iv).toNat)
  case atStart => exact ⟨1, Nat.le_refl _, .inr (Nat.le_refl _), by go_num, OutB.start h1 n1 _⟩
  case round =>
    obtain ⟨i, hi1, hi2, rfl, A, m, c, hc, hf, hC, hx, hN⟩ := hrel
    have hb : w1.heap.size < wr.heap.size := World.block_lt_of_cell? _ _ hc
    by_cases hik : i < n
    · have HS := Lib.hid (fun (w' : World) (h : Ext wr w') => (⟨(h.cell (p := ⟨w1.heap.size, 0, none⟩) hb).trans hc, (h.frozen (p := ⟨w1.heap.size, 0, none⟩) hb).trans hf⟩ : w'.cell? ⟨w1.heap.size, 0, none⟩ = some (.slice A m c) ∧ w'.frozen? ⟨w1.heap.size, 0, none⟩ = false))
      have HL := Lib.hid (fact_len i (by omega))
      have HO := Lib.hid (fun (w' : World) (h : Ext wr w') => CanV.nat (hC.below h) (by have := HL.out; unfold Fit; omega))
      have HM := Lib.hid (len_small (x := i + 1) (by omega))
      clear hC
      have hdec : decide (((i : Int) + 1) ≤ (n : Int)) = true := by simp; omega
      go_upto_region 7 with (fail)
      go_region_law (first
        | (go_simp; go_at_call 52; (with_reducible refine (rcof_e (m := i + 1) (by omega) (by omega)).mono ?_); rintro e w5 ⟨A5, k5, c5, rfl, h5, x5, n5⟩; have e5 : Ext wr w5 := Ext.trans (by repeat first | assumption | exact Below.refl _ _ | refine ext_alloc ?_ _ | refine ext_drew ?_ | refine ext_set ?_ (by first | omega | (simp; done) | (simp; omega)) _) x5; obtain ⟨cc5, ff5⟩ := HS.out _ e5)
        | (go_simp; go_at_call 53; (with_reducible refine (rmul_n (HO.out _ (by repeat first | assumption | exact Below.refl _ _ | refine ext_alloc ?_ _ | refine ext_drew ?_ | refine ext_set ?_ (by first | omega | (simp; done) | (simp; omega)) _)) (NatV.below (CanV.nat h5 (fit_small (by omega))) (by repeat first | assumption | exact Below.refl _ _ | refine ext_alloc ?_ _ | refine ext_drew ?_ | refine ext_set ?_ (by first | omega | (simp; done) | (simp; omega)) _)) (by have := HL.out; have := HM.out; omega)).mono ?_); rintro e w6 ⟨A6, k6, c6, rfl, h6, x6, n6⟩; have e6 : Ext wr w6 := Ext.trans (by repeat first | assumption | exact Below.refl _ _ | refine ext_alloc ?_ _ | refine ext_drew ?_ | refine ext_set ?_ (by first | omega | (simp; done) | (simp; omega)) _) x6; obtain ⟨cc6, ff6⟩ := HS.out _ e6; have y6 := x6.size; have y5 := e5.size; (try simp at y6)))
      all_goals go_wp2
      all_goals go_roundw
      all_goals first
        | (exact ⟨i + 1, by omega, by omega, by go_num, by rw [fact_succ]; exact OutB.set cc6 ff6 h6 (hx.trans e6) n6 (by omega) (by omega) (Nat.le_refl _)⟩)
        | (simp [intOf]; omega)
    · have hfn : fact n = fact i := by
        rcases hi2 with h | h
        · rw [show i = n from by omega]
        · rcases Nat.eq_zero_or_pos n with h0 | h0
          · subst h0; rw [show i = 1 from by omega]; rfl
          · rw [show i = n from by omega]
      have hdec : decide (((i : Int) + 1) ≤ (n : Int)) = false := by simp; omega
      have hc0 := (hx.cell (p := ⟨w.heap.size, 0, none⟩) hs1).trans z1
      have hf0 := (hx.frozen (p := ⟨w.heap.size, 0, none⟩) hs1).trans zf1
      have HF := Lib.hid hfn
      clear z1 zf1 hfn
      go_wp2
      refine bodyPost_ret (v := .tuple #[.agg #[.slice A m c], .int .i64 0]) (by simp [results, Tryd.results26, go_sem, World.cell?_setCell_same _ _ _ hc0]) rfl ?_
      rw [HF.out]
      exact GivesT.box (hE.trans hx) hC hN

theorem rfac_any {n : Int} {w : World} : Calls Tryd.prog 26 #[.int .i64 n] w (GivesT w (facV n) (okE (0 ≤ n ∧ n ≤ 200))) := by
  unfold facV okE
  by_cases h : 0 ≤ n ∧ n ≤ 200
  · rw [if_pos h, if_pos h]
    obtain ⟨m, rfl⟩ : ∃ m : Nat, n = m := ⟨n.toNat, by omega⟩
    rw [Int.toNat_natCast]
    exact rfac_in (by omega)
  · rw [if_neg h, if_neg h]; exact rfac_bad (by omega)

theorem rfal_bad {n k : Int} {w : World} (h' : (n < 0 ∨ 200 < n) ∨ (0 ≤ n ∧ n ≤ 200) ∧ (k < 0 ∨ 200 < k)) :
    Calls Tryd.prog 28 #[.int .i64 n, .int .i64 k] w (GivesT w 0 2) := by
  rcases h' with (h' | h') | ⟨⟨h1, h2⟩, (h' | h')⟩
  all_goals
    go_enter Tryd.func28, Tryd.ntmps28
    go_wp2
    refine bodyPost_ret (v := .tuple #[.agg #[.slice none 0 0], .int .i64 2]) (by simp [results, Tryd.results28, go_sem]) rfl ?_
    exact GivesT.zero

theorem rfal_out {n k : Nat} {w : World} (hn : n ≤ 200) (hk : k ≤ 200) (hlt : n < k) :
    Calls Tryd.prog 28 #[.int .i64 n, .int .i64 k] w (GivesT w 0 0) := by
  go_enter Tryd.func28, Tryd.ntmps28
  go_wp2
  refine bodyPost_ret (v := .tuple #[.agg #[.slice none 0 0], .int .i64 0]) (by simp [results, Tryd.results28, go_sem]) rfl ?_
  exact GivesT.zero

set_option maxHeartbeats 1000000 in
theorem rfal_in {n k : Nat} {w : World} (hn : n ≤ 200) (hk : k ≤ n) :
    Calls Tryd.prog 28 #[.int .i64 n, .int .i64 k] w (GivesT w (fall n k) 0) := by
  go_enter Tryd.func28, Tryd.ntmps28
  go_wp2_with (go_at_call 52; (with_reducible refine (rcof_e (m := 1) (by omega) (by omega)).mono ?_); rintro e w1 ⟨A1, k1, c1, rfl, h1, x1, n1⟩)
  obtain ⟨z1, zf1⟩ := box_new x1
  have hE := ext_new x1
  simp at n1
  have hs1 : w.heap.size < w1.heap.size := by have := x1.size; simp at this; omega
  clear x1
  go_loopw [7] (fun iv wr => ∃ (i : Nat), i ≤ k ∧ iv = .int .i64 i ∧ OutB w1 w1.heap.size (w.heap.size + 1) (fall n i) wr) (fun iv _ => k - (intOf iv).toNat)
  case atStart => exact ⟨0, Nat.zero_le _, by go_num, OutB.start h1 n1 _⟩
  case round =>
    obtain ⟨i, hi, rfl, A, m, c, hc, hf, hC, hx, hN⟩ := hrel
    have hb : w1.heap.size < wr.heap.size := World.block_lt_of_cell? _ _ hc
    by_cases hik : i < k
    · have HS := Lib.hid (fun (w' : World) (h : Ext wr w') => (⟨(h.cell (p := ⟨w1.heap.size, 0, none⟩) hb).trans hc, (h.frozen (p := ⟨w1.heap.size, 0, none⟩) hb).trans hf⟩ : w'.cell? ⟨w1.heap.size, 0, none⟩ = some (.slice A m c) ∧ w'.frozen? ⟨w1.heap.size, 0, none⟩ = false))
      have HL := Lib.hid (fall_len (n := n) (by omega) i)
      have HO := Lib.hid (fun (w' : World) (h : Ext wr w') => CanV.nat (hC.below h) (by have := HL.out; unfold Fit; omega))
      have HM := Lib.hid (len_small (x := n - i) (by omega))
      clear hC
      have hw : IntKind.i64.wrap ((n : Int) - (i : Int)) = (n : Int) - (i : Int) := wrap_in (by omega)
      go_upto_region 9 with (fail)
      go_region_law (first
        | (go_simp; go_at_call 52; (with_reducible refine (rcof_e (m := n - i) (by omega) (by omega)).mono ?_); rintro e w5 ⟨A5, k5, c5, rfl, h5, x5, n5⟩; have e5 : Ext wr w5 := Ext.trans (by repeat first | assumption | exact Below.refl _ _ | refine ext_alloc ?_ _ | refine ext_drew ?_ | refine ext_set ?_ (by first | omega | (simp; done) | (simp; omega)) _) x5; obtain ⟨cc5, ff5⟩ := HS.out _ e5)
        | (go_simp; go_at_call 53; (with_reducible refine (rmul_n (HO.out _ (by repeat first | assumption | exact Below.refl _ _ | refine ext_alloc ?_ _ | refine ext_drew ?_ | refine ext_set ?_ (by first | omega | (simp; done) | (simp; omega)) _)) (NatV.below (CanV.nat h5 (fit_small (by omega))) (by repeat first | assumption | exact Below.refl _ _ | refine ext_alloc ?_ _ | refine ext_drew ?_ | refine ext_set ?_ (by first | omega | (simp; done) | (simp; omega)) _)) (by have := HL.out; have := HM.out; omega)).mono ?_); rintro e w6 ⟨A6, k6, c6, rfl, h6, x6, n6⟩; have e6 : Ext wr w6 := Ext.trans (by repeat first | assumption | exact Below.refl _ _ | refine ext_alloc ?_ _ | refine ext_drew ?_ | refine ext_set ?_ (by first | omega | (simp; done) | (simp; omega)) _) x6; obtain ⟨cc6, ff6⟩ := HS.out _ e6; have y6 := x6.size; have y5 := e5.size; (try simp at y6)))
      all_goals go_wp2
      all_goals go_roundw
      all_goals first
        | (exact ⟨i + 1, by omega, by go_num, by rw [fall_succ]; exact OutB.set cc6 ff6 h6 (hx.trans e6) n6 (by omega) (by omega) (Nat.le_refl _)⟩)
        | (simp [intOf]; omega)
    · obtain rfl : i = k := by omega
      have hc0 := (hx.cell (p := ⟨w.heap.size, 0, none⟩) hs1).trans z1
      have hf0 := (hx.frozen (p := ⟨w.heap.size, 0, none⟩) hs1).trans zf1
      clear z1 zf1
      go_wp2
      refine bodyPost_ret (v := .tuple #[.agg #[.slice A m c], .int .i64 0]) (by simp [results, Tryd.results28, go_sem, World.cell?_setCell_same _ _ _ hc0]) rfl ?_
      exact GivesT.box (hE.trans hx) hC hN

theorem rfal_any {n k : Int} {w : World} : Calls Tryd.prog 28 #[.int .i64 n, .int .i64 k] w (GivesT w (falV n k) (okE ((0 ≤ n ∧ n ≤ 200) ∧ (0 ≤ k ∧ k ≤ 200)))) := by
  unfold falV okE
  by_cases h : (0 ≤ n ∧ n ≤ 200) ∧ (0 ≤ k ∧ k ≤ 200)
  · rw [if_pos h, if_pos h]
    obtain ⟨m, rfl⟩ : ∃ m : Nat, n = m := ⟨n.toNat, by omega⟩
    obtain ⟨j, rfl⟩ : ∃ m : Nat, k = m := ⟨k.toNat, by omega⟩
    rw [Int.toNat_natCast, Int.toNat_natCast]
    by_cases hlt : m < j
    · rw [fall_gt _ _ hlt]; exact rfal_out (by omega) (by omega) hlt
    · exact rfal_in (by omega) (by omega)
  · rw [if_neg h, if_neg h]; exact rfal_bad (by omega)

end Go.Proofs.YthikgbgmnlmmlaaDoor
