/- The walk of CountingPowers. -/
import Derived.Test.YthikgbgmnlmmlaaDoorLwSteps
import Derived.Test.YthikgbgmnlmmlaaDoorPow
set_option linter.unusedVariables false
set_option linter.unusedSimpArgs false
set_option maxRecDepth 100000
namespace Go.Proofs.YthikgbgmnlmmlaaDoor
open Go.RowKit Num


theorem sumTo_mono (f : Nat → Nat) {i n : Nat} (h : i ≤ n) : sumTo f i ≤ sumTo f n := by
  induction n with
  | zero => rw [show i = 0 from by omega]; exact Nat.le_refl _
  | succ n ih =>
    rcases Nat.lt_or_ge n i with h' | h'
    · rw [show i = n + 1 from by omega]; exact Nat.le_refl _
    · have := ih h'; rw [sumTo_succ]; omega
theorem powsum_len {x n i : Nat} (hx : x < 1000000000) (hi : i ≤ n + 1) : (limbsOf (sumTo (fun k => stir n k * fall x k) i)).length ≤ n + 1 :=
  len_of_le_pow (by rw [← stir_powers]; exact sumTo_mono _ hi) hx
theorem cfal_e {n k : Nat} {z y : Int} {w : World} (hz : z = (n : Int)) (hy : y = (k : Int)) (hn : n ≤ 200) (hk : k ≤ 200) : Calls Tryd.prog 27 #[.int .i64 z, .int .i64 y] w (GivesT w (fall n k) 0) := by
  subst hz hy; exact cfal_z hn hk

set_option maxHeartbeats 4000000 in
theorem law_CountingPowers {a0 a1 : Int} {w : World} (wa : -9223372036854775808 ≤ a0 ∧ a0 ≤ 9223372036854775807) (wb : -9223372036854775808 ≤ a1 ∧ a1 ≤ 9223372036854775807) :
    Calls Tryd.prog 11 #[.int .i64 a0, .int .i64 a1] w (fun e w' => e = .returned (.bool true) ∧ Ext w w') := by
  have HA := Lib.hid wa
  have HB := Lib.hid wb
  clear wa wb
  go_enter Tryd.func11, Tryd.ntmps11
  go_wp2_with (go_at_call 12; (with_reducible refine awake_true.mono ?_); rintro e w0 ⟨rfl, E0⟩)
  refine (mod_i (by omega) (by omega) HA.out).mono ?_
  rintro e _ ⟨x, hx, rfl, rfl⟩
  go_wp2_with fail
  refine (mod_i (by omega) (by omega) HB.out).mono ?_
  rintro e _ ⟨n, hn, rfl, rfl⟩
  clear HA HB
  go_wp2_with fail
  refine (nof_e (m := 0) (by omega) (by omega)).mono ?_
  rintro e u3 ⟨A3, k3, c3, rfl, h3, x3, n3⟩
  have hO := OutB.start (B := 0) h3 (n3.mono (Nat.zero_le _)) 25
  have E3 := Ext.trans E0 x3
  clear h3 n3 x3 E0
  go_wp2
  go_loopw [6] (fun iv wr => ∃ (i : Nat), i ≤ n + 1 ∧ iv = .int .i64 i ∧ OutB u3 u3.heap.size 0 (sumTo (fun k => stir n k * fall x k) i) wr) (fun iv _ => n + 1 - (intOf iv).toNat)
  case atStart => exact ⟨0, Nat.zero_le _, rfl, hO⟩
  case round =>
    clear hO
    obtain ⟨i, hi, rfl, A, m, c, hc, hf, hC, hX, hN⟩ := hrel
    have hb : u3.heap.size < wr.heap.size := World.block_lt_of_cell? _ _ hc
    by_cases hin : i ≤ n
    · have HL := Lib.hid (powsum_len (x := x) (n := n) (i := i) (by omega) (by omega))
      have HB := Lib.hid (stir_len (n := n) (k := i) (by omega))
      have HB2 := Lib.hid (fall_len (n := x) (by omega) i)
      have HM := Lib.hid (limbsOf_length_mul (stir n i) (fall x i))
      have HC := Lib.hid (CanV.nat hC (by have := HL.out; unfold Fit; omega))
      clear hC
      go_wp2_with fail
      refine (cst_z (n := n) (k := i) (by omega) (by omega) (by omega)).mono ?_
      rintro e u4 ⟨A4, k4, c4, rfl, h4, x4, _⟩
      have E4 := E3
      have y4 := ext_alloc x4 (.cells #[.slice A4 k4 c4] 25)
      have p4 := CanV.alloc h4 (.cells #[.slice A4 k4 c4] 25)
      have b4 : (u4.alloc (.cells #[.slice A4 k4 c4] 25)).cell? ⟨u4.heap.size, 0, none⟩ = some (.slice A4 k4 c4) := by simp [go_sem]
      clear h4 x4 E4
      go_wp2_with fail
      generalize u4.alloc (.cells #[.slice A4 k4 c4] 25) = w5 at *
      refine (cfal_e (n := x) (k := i) (by omega) (by omega) (by omega) (by omega)).mono ?_
      rintro e u5 ⟨A5, k5, c5, rfl, h5, x5, _⟩
      have y5 := ext_alloc x5 (.cells #[.slice A5 k5 c5] 25)
      have p5 := CanV.alloc h5 (.cells #[.slice A5 k5 c5] 25)
      have b5 : (u5.alloc (.cells #[.slice A5 k5 c5] 25)).cell? ⟨u5.heap.size, 0, none⟩ = some (.slice A5 k5 c5) := by simp [go_sem]
      have p4 := CanV.below p4 y5
      have b4 := (y5.cell (p := ⟨u4.heap.size, 0, none⟩) (World.block_lt_of_cell? _ _ b4)).trans b4
      have Y := Ext.trans y4 y5
      clear h5 x5 y4 y5
      go_upto_region 12 with (fail)
      generalize u5.alloc (.cells #[.slice A5 k5 c5] 25) = w6 at *
      have cc := (Y.cell (p := ⟨u3.heap.size, 0, none⟩) hb).trans hc
      have ff := (Y.frozen (p := ⟨u3.heap.size, 0, none⟩) hb).trans hf
      have hb6 : u3.heap.size < w6.heap.size := World.block_lt_of_cell? _ _ cc
      have HC6 := Lib.hid (NatV.below HC.out (Y))
      have HS := Lib.hid (fun (w' : World) (h : Ext w6 w') => (⟨(h.cell (p := ⟨u3.heap.size, 0, none⟩) hb6).trans cc, (h.frozen (p := ⟨u3.heap.size, 0, none⟩) hb6).trans ff, (h.cell (p := ⟨u4.heap.size, 0, none⟩) (World.block_lt_of_cell? _ _ b4)).trans b4, (h.cell (p := ⟨u5.heap.size, 0, none⟩) (World.block_lt_of_cell? _ _ b5)).trans b5⟩ : w'.cell? ⟨u3.heap.size, 0, none⟩ = some (.slice A m c) ∧ w'.frozen? ⟨u3.heap.size, 0, none⟩ = false ∧ w'.cell? ⟨u4.heap.size, 0, none⟩ = some (.slice A4 k4 c4) ∧ w'.cell? ⟨u5.heap.size, 0, none⟩ = some (.slice A5 k5 c5)))
      have H4 := Lib.hid (CanV.nat p4 (by have := HB.out; unfold Fit; omega))
      have H5 := Lib.hid (CanV.nat p5 (by have := HB2.out; unfold Fit; omega))
      have HY := Lib.hid (hX.trans Y)
      clear p4 p5 hc hf hX
      go_region_law (first
        | (go_simp; go_at_call 24; (with_reducible refine (mul_n (NatV.below H4.out (by repeat first | assumption | exact Below.refl _ _ | refine ext_alloc ?_ _ | refine ext_drew ?_ | refine ext_set ?_ (by first | omega | (simp; done) | (simp; omega)) _)) (NatV.below H5.out (by repeat first | assumption | exact Below.refl _ _ | refine ext_alloc ?_ _ | refine ext_drew ?_ | refine ext_set ?_ (by first | omega | (simp; done) | (simp; omega)) _)) (by have := HB.out; have := HB2.out; omega)).mono ?_); rintro e s1 ⟨B1, m1, d1, rfl, q1, z1, _⟩; have f1 : Ext w6 s1 := Ext.trans (by repeat first | assumption | exact Below.refl _ _ | refine ext_alloc ?_ _ | refine ext_drew ?_ | refine ext_set ?_ (by first | omega | (simp; done) | (simp; omega)) _) z1; obtain ⟨g11, g12, g13, g14⟩ := HS.out _ f1)
        | (go_simp; go_at_call 21; (with_reducible refine (add_n (NatV.below HC6.out (by repeat first | assumption | exact Below.refl _ _ | refine ext_alloc ?_ _ | refine ext_drew ?_ | refine ext_set ?_ (by first | omega | (simp; done) | (simp; omega)) _)) (NatV.below (CanV.nat q1 (by have := HB.out; have := HB2.out; have := HM.out; unfold Fit; omega)) (by repeat first | assumption | exact Below.refl _ _ | refine ext_alloc ?_ _ | refine ext_drew ?_ | refine ext_set ?_ (by first | omega | (simp; done) | (simp; omega)) _)) (by have := HL.out; omega) (by have := HB.out; have := HB2.out; have := HM.out; omega)).mono ?_); rintro e s2 ⟨B2, m2, d2, rfl, q2, z2, n2⟩; have f2 : Ext w6 s2 := Ext.trans (by repeat first | assumption | exact Below.refl _ _ | refine ext_alloc ?_ _ | refine ext_drew ?_ | refine ext_set ?_ (by first | omega | (simp; done) | (simp; omega)) _) z2; obtain ⟨g21, g22, g23, g24⟩ := HS.out _ f2; have y2 := z2.size; have y1 := f1.size; (try simp at y2)))
      all_goals go_wp2
      all_goals go_roundw
      all_goals first
        | (exact ⟨i + 1, by omega, by go_num, by rw [sumTo_succ]; exact OutB.set g21 g22 q2 (HY.out.trans f2) n2 (by omega) (Nat.zero_le _) (Nat.le_refl _)⟩)
        | (simp [intOf]; omega)
    · obtain rfl : i = n + 1 := by omega
      rw [stir_powers] at hC
      have HL := Lib.hid (len_of_le_pow (x := x ^ n) (Nat.le_refl _) (show x < 1000000000 by omega))
      have hw1 : IntKind.i64.wrap (x : Int) = (x : Int) := wrap_in (by omega)
      have hw2 : IntKind.u64.wrap (x : Int) = (x : Int) := by rw [IntKind.wrap_u64]; omega
      go_wp2_with fail
      refine (nof_e (m := x) (by omega) (by omega)).mono ?_
      rintro e w5 ⟨A5, k5, c5, rfl, h5, x5, _⟩
      have H5 := Lib.hid (CanV.nat h5 (fit_small (by omega)))
      have cc5 := (x5.cell (p := ⟨u3.heap.size, 0, none⟩) hb).trans hc
      have hb5 : u3.heap.size < w5.heap.size := World.block_lt_of_cell? _ _ cc5
      have q5 := hC.below x5
      clear h5 hC hc hf
      go_wp2_with fail
      refine (pow_n (N := n) H5.out (by omega) (by omega) (fun w' h => digits_small h (by omega))).mono ?_
      rintro e w6 ⟨A6, k6, c6, rfl, h6, x6, _⟩
      have cc6 := (x6.cell (p := ⟨u3.heap.size, 0, none⟩) hb5).trans cc5
      have hb6 : u3.heap.size < w6.heap.size := World.block_lt_of_cell? _ _ cc6
      have q6 := (q5.below x6).alloc (.cells #[.slice A6 k6 c6] 25)
      have p6 := CanV.alloc h6 (.cells #[.slice A6 k6 c6] 25)
      have X6 := ext_alloc (((E3.trans hX).trans x5).trans x6) (.cells #[.slice A6 k6 c6] 25)
      clear q5 h6 x6 x5 cc5 hX
      go_wp2_with fail
      refine (cmp_same (CanV.nat q6 (by have := HL.out; unfold Fit; omega)) (CanV.nat p6 (by have := HL.out; unfold Fit; omega))).mono ?_
      rintro e w7 ⟨rfl, x7⟩
      go_wp2
      go_ret
      exact ⟨rfl, X6.trans x7⟩

end Go.Proofs.YthikgbgmnlmmlaaDoor
