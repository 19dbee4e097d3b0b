/- Bell, of both. -/
import Derived.Test.YthikgbgmnlmmlaaDoorBell
set_option linter.unusedVariables false
set_option linter.unusedSimpArgs false
set_option maxRecDepth 100000
namespace Go.Proofs.YthikgbgmnlmmlaaDoor
open Go.RowKit Num

theorem cbl_bad {n : Int} {w : World} (h' : n < 0 ∨ 64 < n) :
    Calls Tryd.prog 22 #[.int .i64 n] w (GivesT w 0 2) := by
  go_enter Tryd.func22, Tryd.ntmps22
  go_wp2_with (go_at_call 40; (with_reducible refine (within_f h').mono ?_); rintro e w1 ⟨rfl, rfl⟩)
  refine bodyPost_ret (v := .tuple #[.agg #[.slice none 0 0], .int .i64 2]) (by simp [results, Tryd.results22, go_sem]) rfl ?_
  exact GivesT.zero

set_option maxHeartbeats 2000000 in
theorem cbl_in {n : Nat} {w : World} (hn : n ≤ 64) :
    Calls Tryd.prog 22 #[.int .i64 n] w (GivesT w (sumTo (stir n) (n + 1)) 0) := by
  have h1 : (0 : Int) ≤ n ∧ (n : Int) ≤ 64 := by omega
  go_enter Tryd.func22, Tryd.ntmps22
  go_wp2_with (first
    | (go_at_call 40; (with_reducible refine (within_t h1).mono ?_); rintro e w1 ⟨rfl, rfl⟩))
  refine (cof_e (m := 0) (by omega) (by omega)).mono ?_
  rintro e w1 ⟨A1, k1, c1, rfl, y1, x1, n1⟩
  obtain ⟨z1, zf1⟩ := box_new x1
  have hE := ext_new x1
  simp at n1
  have hs1 : w.heap.size < w1.heap.size := by have := x1.size; simp at this; omega
  clear x1
  go_wp2_with fail
  have hO := OutB.start (B := w.heap.size + 1) y1 n1 25
  clear y1 n1
  refine (crow_n hn).mono ?_
  rintro e w2 ⟨A2, c2, rfl, y2, x2, v2⟩
  rw [upto_length] at y2 v2 ⊢
  obtain ⟨A, m, c, hc, hf, hC, hx, hN⟩ := hO
  have hO : OutB w1 w1.heap.size (w.heap.size + 1) 0 w2 := ⟨A, m, c, (x2.cell (p := ⟨w1.heap.size, 0, none⟩) (World.block_lt_of_cell? _ _ hc)).trans hc, (x2.frozen (p := ⟨w1.heap.size, 0, none⟩) (World.block_lt_of_cell? _ _ hc)).trans hf, hC.below x2, hx.trans x2, hN⟩
  have y2' : NatsV (w1.heap.size + 1) w2 (.slice A2 (n + 1) c2) (upto_ (stir n) (n + 1)) := by simpa using y2
  have v2' : New (w1.heap.size + 1) (.slice A2 (n + 1) c2) := by simpa using v2
  clear hc hf hC hx hN x2 y2 v2
  go_wp2
  go_loopw [15] (fun iv wr => ∃ (i : Nat), i ≤ n + 1 ∧ iv = .int .i64 i ∧ OutB w1 w1.heap.size (w.heap.size + 1) (sumTo (stir n) i) wr ∧ NatsV (w1.heap.size + 1) wr (.slice A2 (n + 1) c2) (upto_ (stir n) (n + 1))) (fun iv _ => n + 1 - (intOf iv).toNat)
  case atStart => exact ⟨0, Nat.zero_le _, rfl, hO, y2'⟩
  case round =>
    obtain ⟨i, hi, rfl, ⟨A, m, c, hc, hf, hC, hx, hN⟩, hV⟩ := hrel
    have hb : w1.heap.size < wr.heap.size := World.block_lt_of_cell? _ _ hc
    by_cases hin : i < n + 1
    · obtain ⟨ad, A5, k5, c5, rfl, hb5, hc5, hn5, hq5⟩ := hV.at_ (k := i) (upto_at hin)
      have HL := Lib.hid (sum_len (n := n) (k := i) (by omega))
      have HB := Lib.hid (stir_len (n := n) (k := i) (by omega))
      have HC := Lib.hid (CanV.nat hC (by have := HL.out; unfold Fit; omega))
      have HN := Lib.hid (CanV.nat hn5 (by have := HB.out; unfold Fit; omega))
      clear hC hn5
      go_wp2_with fail
      refine (add_n (NatV.below HC.out (by repeat first | assumption | exact Below.refl _ _ | refine ext_alloc ?_ _ | refine ext_drew ?_ | refine ext_set ?_ (by first | omega | (simp; done) | (simp; omega)) _)) (NatV.below HN.out (by repeat first | assumption | exact Below.refl _ _ | refine ext_alloc ?_ _ | refine ext_drew ?_ | refine ext_set ?_ (by first | omega | (simp; done) | (simp; omega)) _)) (by have := HL.out; omega) (by have := HB.out; omega)).mono ?_
      rintro e w6 ⟨A6, k6, c6, rfl, h6, x6, n6⟩
      have e6 := ext_new x6
      have cc6 := (e6.cell (p := ⟨w1.heap.size, 0, none⟩) hb).trans hc
      have ff6 := (e6.frozen (p := ⟨w1.heap.size, 0, none⟩) hb).trans hf
      simp at n6
      go_wp2
      go_roundw
      case rel => exact ⟨i + 1, by omega, by go_num, by rw [sumTo_succ]; exact OutB.set cc6 ff6 h6 (hx.trans e6) n6 (by omega) (by have := hx.size; omega) (Nat.le_refl _), (hV.ext e6).set v2' (Nat.lt_succ_self _) _⟩
      case measure => simp [intOf]; omega
    · obtain rfl : i = n + 1 := by omega
      have hc0 := (hx.cell (p := ⟨w.heap.size, 0, none⟩) hs1).trans z1
      have hf0 := (hx.frozen (p := ⟨w.heap.size, 0, none⟩) hs1).trans zf1
      clear z1 zf1
      go_wp2
      refine bodyPost_ret (v := .tuple #[.agg #[.slice A m c], .int .i64 0]) (by simp [results, Tryd.results22, go_sem, World.cell?_setCell_same _ _ _ hc0]) rfl ?_
      exact GivesT.box (hE.trans hx) hC hN

theorem cbl_any {n : Int} {w : World} : Calls Tryd.prog 22 #[.int .i64 n] w (GivesT w (blV n) (okE (0 ≤ n ∧ n ≤ 64))) := by
  unfold blV okE
  by_cases h : 0 ≤ n ∧ n ≤ 64
  · rw [if_pos h, if_pos h]
    obtain ⟨m, rfl⟩ : ∃ m : Nat, n = m := ⟨n.toNat, by omega⟩
    rw [Int.toNat_natCast]
    exact cbl_in (by omega)
  · rw [if_neg h, if_neg h]; exact cbl_bad (by omega)

theorem rbl_bad {n : Int} {w : World} (h' : n < 0 ∨ 64 < n) :
    Calls Tryd.prog 33 #[.int .i64 n] w (GivesT w 0 2) := by
  rcases h' with h' | h'
  all_goals
    go_enter Tryd.func33, Tryd.ntmps33
    go_wp2
    refine bodyPost_ret (v := .tuple #[.agg #[.slice none 0 0], .int .i64 2]) (by simp [results, Tryd.results33, go_sem]) rfl ?_
    exact GivesT.zero

set_option maxHeartbeats 2000000 in
theorem rbl_in {n : Nat} {w : World} (hn : n ≤ 64) :
    Calls Tryd.prog 33 #[.int .i64 n] w (GivesT w (sumTo (stir n) (n + 1)) 0) := by
  go_enter Tryd.func33, Tryd.ntmps33
  go_upto_region 4 with (fail)
  have z1 : (w.alloc (.cells #[.slice none 0 0] 25)).cell? ⟨w.heap.size, 0, none⟩ = some (.slice none 0 0) := by simp [go_sem]
  have zf1 : (w.alloc (.cells #[.slice none 0 0] 25)).frozen? ⟨w.heap.size, 0, none⟩ = false := by simp [go_sem]
  have hE : Ext w (w.alloc (.cells #[.slice none 0 0] 25)) := ext_alloc (Below.refl _ _) _
  have hbx : w.heap.size + 1 = (w.alloc (.cells #[.slice none 0 0] 25)).heap.size := by simp
  generalize w.alloc (.cells #[.slice none 0 0] 25) = w1 at *
  rw [hbx]
  have hs1 : w.heap.size < w1.heap.size := by omega
  have hO := OutB.start (B := w.heap.size + 1) (CanV.nil_ w1) (New.nil_ _) 25
  go_wp2_with fail
  refine (rparts_n hn).mono ?_
  rintro e w2 ⟨A2, c2, rfl, y2, x2, v2⟩
  rw [upto_length] at y2 v2 ⊢
  obtain ⟨A, m, c, hc, hf, hC, hx, hN⟩ := hO
  have hO : OutB w1 w1.heap.size (w.heap.size + 1) 0 w2 := ⟨A, m, c, (x2.cell (p := ⟨w1.heap.size, 0, none⟩) (World.block_lt_of_cell? _ _ hc)).trans hc, (x2.frozen (p := ⟨w1.heap.size, 0, none⟩) (World.block_lt_of_cell? _ _ hc)).trans hf, hC.below x2, hx.trans x2, hN⟩
  have y2' : NatsV (w1.heap.size + 1) w2 (.slice A2 (n + 1) c2) (upto_ (stir n) (n + 1)) := by simpa using y2
  have v2' : New (w1.heap.size + 1) (.slice A2 (n + 1) c2) := by simpa using v2
  clear hc hf hC hx hN x2 y2 v2
  go_wp2
  go_loopw [6] (fun iv wr => ∃ (i : Nat), i ≤ n + 1 ∧ iv = .int .i64 i ∧ OutB w1 w1.heap.size (w.heap.size + 1) (sumTo (stir n) i) wr ∧ NatsV (w1.heap.size + 1) wr (.slice A2 (n + 1) c2) (upto_ (stir n) (n + 1))) (fun iv _ => n + 1 - (intOf iv).toNat)
  case atStart => exact ⟨0, Nat.zero_le _, by go_num, hO, y2'⟩
  case round =>
    obtain ⟨i, hi, rfl, ⟨A, m, c, hc, hf, hC, hx, hN⟩, hV⟩ := hrel
    have hb : w1.heap.size < wr.heap.size := World.block_lt_of_cell? _ _ hc
    by_cases hin : i < n + 1
    · obtain ⟨ad, A5, k5, c5, rfl, hb5, hc5, hn5, hq5⟩ := hV.at_ (k := i) (upto_at hin)
      have HL := Lib.hid (sum_len (n := n) (k := i) (by omega))
      have HB := Lib.hid (stir_len (n := n) (k := i) (by omega))
      have HC := Lib.hid (CanV.nat hC (by have := HL.out; unfold Fit; omega))
      have HN := Lib.hid (CanV.nat hn5 (by have := HB.out; unfold Fit; omega))
      have HS := Lib.hid (fun (w' : World) (h : Ext wr w') => (⟨(h.cell (p := ⟨w1.heap.size, 0, none⟩) hb).trans hc, (h.frozen (p := ⟨w1.heap.size, 0, none⟩) hb).trans hf⟩ : w'.cell? ⟨w1.heap.size, 0, none⟩ = some (.slice A m c) ∧ w'.frozen? ⟨w1.heap.size, 0, none⟩ = false))
      have HV := Lib.hid hV
      have hw1 : IntKind.i64.wrap (i : Int) = (i : Int) := wrap_in (by omega)
      have hb1 : (i : Int) < (n : Int) + 1 := by omega
      clear hC hn5 hV
      go_upto_region 8 with (fail)
      go_region_law (first
        | (go_simp; go_at_call 44; (with_reducible refine (radd_n (NatV.below HC.out (by repeat first | assumption | exact Below.refl _ _ | refine ext_alloc ?_ _ | refine ext_drew ?_ | refine ext_set ?_ (by first | omega | (simp; done) | (simp; omega)) _)) (NatV.below HN.out (by repeat first | assumption | exact Below.refl _ _ | refine ext_alloc ?_ _ | refine ext_drew ?_ | refine ext_set ?_ (by first | omega | (simp; done) | (simp; omega)) _)) (by have := HL.out; omega) (by have := HB.out; omega)).mono ?_); rintro e w6 ⟨A6, k6, c6, rfl, h6, x6, n6⟩; have e6 : Ext wr w6 := Ext.trans (by repeat first | assumption | exact Below.refl _ _ | refine ext_alloc ?_ _ | refine ext_drew ?_ | refine ext_set ?_ (by first | omega | (simp; done) | (simp; omega)) _) x6; obtain ⟨cc6, ff6⟩ := HS.out _ e6; (try simp at n6)))
      all_goals go_wp2
      all_goals go_roundw
      all_goals first
        | (exact ⟨i + 1, by omega, by go_num, by rw [sumTo_succ]; exact OutB.set cc6 ff6 h6 (hx.trans e6) n6 (by omega) (by have := hx.size; omega) (Nat.le_refl _), (HV.out.ext e6).set v2' (Nat.lt_succ_self _) _⟩)
        | (simp [intOf]; omega)
    · obtain rfl : i = n + 1 := by omega
      have hc0 := (hx.cell (p := ⟨w.heap.size, 0, none⟩) hs1).trans z1
      have hf0 := (hx.frozen (p := ⟨w.heap.size, 0, none⟩) hs1).trans zf1
      clear z1 zf1
      go_wp2
      refine bodyPost_ret (v := .tuple #[.agg #[.slice A m c], .int .i64 0]) (by simp [results, Tryd.results33, go_sem, World.cell?_setCell_same _ _ _ hc0]) rfl ?_
      exact GivesT.box (hE.trans hx) hC hN

theorem rbl_any {n : Int} {w : World} : Calls Tryd.prog 33 #[.int .i64 n] w (GivesT w (blV n) (okE (0 ≤ n ∧ n ≤ 64))) := by
  unfold blV okE
  by_cases h : 0 ≤ n ∧ n ≤ 64
  · rw [if_pos h, if_pos h]
    obtain ⟨m, rfl⟩ : ∃ m : Nat, n = m := ⟨n.toNat, by omega⟩
    rw [Int.toNat_natCast]
    exact rbl_in (by omega)
  · rw [if_neg h, if_neg h]; exact rbl_bad (by omega)

end Go.Proofs.YthikgbgmnlmmlaaDoor
