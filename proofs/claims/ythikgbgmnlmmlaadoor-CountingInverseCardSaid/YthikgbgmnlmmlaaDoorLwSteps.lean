/- The walk of CountingSteps. -/
import Derived.Test.YthikgbgmnlmmlaaDoorLwPascal
import Derived.Test.YthikgbgmnlmmlaaDoorBell2
set_option linter.unusedVariables false
set_option linter.unusedSimpArgs false
set_option maxRecDepth 100000
namespace Go.Proofs.YthikgbgmnlmmlaaDoor
open Go.RowKit Num


def stP (n : Nat) : Nat → Nat | 0 => 0 | k + 1 => stir n k
theorem stP_step (n k : Nat) : stir (n + 1) k = stP n k + k * stir n k := by
  cases k with
  | zero => simp [stP, stir_succ_zero]
  | succ k => rw [stir_succ]; rfl
theorem stP_len {n k : Nat} (hk : k < 999999999) : (limbsOf (stP n k)).length ≤ n + 1 := by
  cases k with
  | zero => rw [stP, limbsOf_zero]; simp
  | succ k => exact stir_len (by omega)

theorem nof_e {z : Int} {m : Nat} {w : World} (he : z = (m : Int)) (hm : m < 18446744073709551616) : Calls Tryd.prog 20 #[.int .u64 z] w (GivesN w m) := by
  subst he; exact of_n hm
theorem cst_z {n k : Nat} {z y : Int} {w : World} (hz : z = (n : Int)) (hy : y = (k : Int)) (hn : n ≤ 64) : Calls Tryd.prog 19 #[.int .i64 z, .int .i64 y] w (GivesT w (stir n k) 0) := by
  subst hz hy; exact csj_st hn
theorem cst_p {n k : Nat} {z y : Int} {w : World} (hz : z = (n : Int)) (hy : y = (k : Int) - 1) (hn : n ≤ 64) : Calls Tryd.prog 19 #[.int .i64 z, .int .i64 y] w (GivesT w (stP n k) 0) := by
  subst hz hy
  cases k with
  | zero => exact cstir_out hn (.inl (by omega))
  | succ k => rw [show ((k + 1 : Nat) : Int) - 1 = (k : Int) from by omega]; exact csj_st hn
theorem cbl_z {n : Nat} {z : Int} {w : World} (hz : z = (n : Int)) (hn : n ≤ 64) : Calls Tryd.prog 22 #[.int .i64 z] w (GivesT w (sumTo (stir n) (n + 1)) 0) := by
  subst hz; exact cbl_in hn

set_option maxHeartbeats 4000000 in
theorem law_CountingSteps {a0 a1 : Int} {w : World} (wa : -9223372036854775808 ≤ a0 ∧ a0 ≤ 9223372036854775807) (wb : -9223372036854775808 ≤ a1 ∧ a1 ≤ 9223372036854775807) :
    Calls Tryd.prog 5 #[.int .i64 a0, .int .i64 a1] w (fun e w' => e = .returned (.bool true) ∧ Ext w w') := by
  have HA := Lib.hid wa
  have HB := Lib.hid wb
  clear wa wb
  go_enter Tryd.func5, Tryd.ntmps5
  go_wp2_with (go_at_call 12; (with_reducible refine awake_true.mono ?_); rintro e w0 ⟨rfl, E0⟩)
  refine (mod_i (by omega) (by omega) HA.out).mono ?_
  rintro e _ ⟨n, hn, rfl, rfl⟩
  go_wp2_with fail
  refine (mod_i (by omega) (by omega) HB.out).mono ?_
  rintro e _ ⟨k, hk, rfl, rfl⟩
  clear HA HB
  go_wp2_with fail
  refine (cst_p (n := n) (k := k) (by omega) (by omega) (by omega)).mono ?_
  rintro e u0 ⟨A0, k0, c0, rfl, h0, x0, _⟩
  have y0 := ext_alloc x0 (.cells #[.slice A0 k0 c0] 25)
  have p0 := CanV.alloc h0 (.cells #[.slice A0 k0 c0] 25)
  have b0 : (u0.alloc (.cells #[.slice A0 k0 c0] 25)).cell? ⟨u0.heap.size, 0, none⟩ = some (.slice A0 k0 c0) := by simp [go_sem]
  have E1 := Ext.trans E0 y0
  clear x0 h0 y0
  go_wp2_with fail
  generalize u0.alloc (.cells #[.slice A0 k0 c0] 25) = w1 at *
  refine (cst_z (n := n) (k := k) (by omega) (by omega) (by omega)).mono ?_
  rintro e u1 ⟨A1, k1, c1, rfl, h1, x1, _⟩
  have y1 := ext_alloc x1 (.cells #[.slice A1 k1 c1] 25)
  have p1 := CanV.alloc h1 (.cells #[.slice A1 k1 c1] 25)
  have b1 : (u1.alloc (.cells #[.slice A1 k1 c1] 25)).cell? ⟨u1.heap.size, 0, none⟩ = some (.slice A1 k1 c1) := by simp [go_sem]
  have p0 := CanV.below p0 y1
  have b0 := (y1.cell (p := ⟨u0.heap.size, 0, none⟩) (World.block_lt_of_cell? _ _ b0)).trans b0
  have E2 := Ext.trans E1 y1
  clear x1 h1 y1
  go_wp2_with fail
  generalize u1.alloc (.cells #[.slice A1 k1 c1] 25) = w2 at *
  refine (cst_z (n := n + 1) (k := k) (by omega) (by omega) (by omega)).mono ?_
  rintro e u2 ⟨A2, k2, c2, rfl, h2, x2, _⟩
  have y2 := ext_alloc x2 (.cells #[.slice A2 k2 c2] 25)
  have p2 := CanV.alloc h2 (.cells #[.slice A2 k2 c2] 25)
  have b2 : (u2.alloc (.cells #[.slice A2 k2 c2] 25)).cell? ⟨u2.heap.size, 0, none⟩ = some (.slice A2 k2 c2) := by simp [go_sem]
  have p0 := CanV.below p0 y2
  have b0 := (y2.cell (p := ⟨u0.heap.size, 0, none⟩) (World.block_lt_of_cell? _ _ b0)).trans b0
  have p1 := CanV.below p1 y2
  have b1 := (y2.cell (p := ⟨u1.heap.size, 0, none⟩) (World.block_lt_of_cell? _ _ b1)).trans b1
  have E3 := Ext.trans E2 y2
  clear x2 h2 y2
  go_wp2_with fail
  generalize u2.alloc (.cells #[.slice A2 k2 c2] 25) = w3 at *
  refine (nof_e (m := 0) (by omega) (by omega)).mono ?_
  rintro e u3 ⟨A3, k3, c3, rfl, h3, x3, n3⟩
  have hO := OutB.start (B := 0) h3 (n3.mono (Nat.zero_le _)) 25
  clear h3 n3
  have HS := Lib.hid (fun (w' : World) (h : Ext w3 w') => (⟨(h.cell (p := ⟨u0.heap.size, 0, none⟩) (World.block_lt_of_cell? _ _ b0)).trans b0, (h.cell (p := ⟨u1.heap.size, 0, none⟩) (World.block_lt_of_cell? _ _ b1)).trans b1, (h.cell (p := ⟨u2.heap.size, 0, none⟩) (World.block_lt_of_cell? _ _ b2)).trans b2⟩ : w'.cell? ⟨u0.heap.size, 0, none⟩ = some (.slice A0 k0 c0) ∧ w'.cell? ⟨u1.heap.size, 0, none⟩ = some (.slice A1 k1 c1) ∧ w'.cell? ⟨u2.heap.size, 0, none⟩ = some (.slice A2 k2 c2)))
  have HP := Lib.hid (fun (w' : World) (h : Ext w3 w') => (⟨CanV.below p0 h, CanV.below p1 h, CanV.below p2 h⟩ : CanV w' (.slice A0 k0 c0) (stP n k) ∧ CanV w' (.slice A1 k1 c1) (stir n k) ∧ CanV w' (.slice A2 k2 c2) (stir (n + 1) k)))
  clear p0 p1 p2 b0 b1 b2
  go_wp2
  go_loopw [12] (fun iv wr => ∃ (i : Nat), i ≤ n + 1 ∧ iv = .int .i64 i ∧ OutB u3 u3.heap.size 0 (sumTo (stir n) i) wr) (fun iv _ => n + 1 - (intOf iv).toNat)
  case atStart => exact ⟨0, Nat.zero_le _, rfl, hO⟩
  case round =>
    clear hO
    obtain ⟨i, hi, rfl, A, m, c, hc, hf, hC, hx, hN⟩ := hrel
    have hb : u3.heap.size < wr.heap.size := World.block_lt_of_cell? _ _ hc
    by_cases hin : i ≤ n
    · have HL := Lib.hid (sum_len (n := n) (k := i) (by omega))
      have HB := Lib.hid (stir_len (n := n) (k := i) (by omega))
      have HC := Lib.hid (CanV.nat hC (by have := HL.out; unfold Fit; omega))
      clear hC
      go_wp2_with fail
      refine (cst_z (n := n) (k := i) (by omega) (by omega) (by omega)).mono ?_
      rintro e w5 ⟨A5, k5, c5, rfl, h5, x5, _⟩
      have cc5 := (x5.cell (p := ⟨u3.heap.size, 0, none⟩) hb).trans hc
      have ff5 := (x5.frozen (p := ⟨u3.heap.size, 0, none⟩) hb).trans hf
      have hb5 : u3.heap.size < w5.heap.size := World.block_lt_of_cell? _ _ cc5
      have HN := Lib.hid (CanV.nat h5 (by have := HB.out; unfold Fit; omega))
      clear h5
      go_wp2_with fail
      refine (add_n (NatV.below HC.out (by repeat first | assumption | exact Below.refl _ _ | refine ext_alloc ?_ _ | refine ext_drew ?_ | refine ext_set ?_ (by first | omega | (simp; done) | (simp; omega)) _)) (NatV.below HN.out (by repeat first | assumption | exact Below.refl _ _ | refine ext_alloc ?_ _ | refine ext_drew ?_ | refine ext_set ?_ (by first | omega | (simp; done) | (simp; omega)) _)) (by have := HL.out; omega) (by have := HB.out; omega)).mono ?_
      rintro e w6 ⟨A6, k6, c6, rfl, h6, x6, n6⟩
      have e6 := Ext.trans x5 (ext_new x6)
      have cc6 := (e6.cell (p := ⟨u3.heap.size, 0, none⟩) hb).trans hc
      have ff6 := (e6.frozen (p := ⟨u3.heap.size, 0, none⟩) hb).trans hf
      simp at n6
      go_wp2
      go_roundw
      case rel => exact ⟨i + 1, by omega, by go_num, by rw [sumTo_succ]; exact OutB.set cc6 ff6 h6 (hx.trans e6) n6 (by omega) (Nat.zero_le _) (Nat.le_refl _)⟩
      case measure => simp [intOf]; omega
    · obtain rfl : i = n + 1 := by omega
      have X := Ext.trans x3 hx
      go_wp2_with fail
      refine (cbl_z (n := n) (by omega) (by omega)).mono ?_
      rintro e u4 ⟨A4, k4, c4, rfl, h4, x4, _⟩
      have y4 := ext_alloc x4 (.cells #[.slice A4 k4 c4] 25)
      have p4 := CanV.alloc h4 (.cells #[.slice A4 k4 c4] 25)
      have b4 : (u4.alloc (.cells #[.slice A4 k4 c4] 25)).cell? ⟨u4.heap.size, 0, none⟩ = some (.slice A4 k4 c4) := by simp [go_sem]
      have p3 := CanV.below hC y4
      have b3 := (y4.cell (p := ⟨u3.heap.size, 0, none⟩) hb).trans hc
      have X4 := Ext.trans X y4
      clear hC hc hf hN h4 x4 y4
      go_upto_region 17 with (fail)
      generalize u4.alloc (.cells #[.slice A4 k4 c4] 25) = w5 at *
      obtain ⟨p0, p1, p2⟩ := HP.out _ X4
      obtain ⟨b0, b1, b2⟩ := HS.out _ X4
      rw [stP_step] at p2
      have HE := Lib.hid (Ext.trans E3 X4)
      have HL0 := Lib.hid (stP_len (n := n) (k := k) (by omega))
      have HL1 := Lib.hid (stir_len (n := n) (k := k) (by omega))
      have HL2 := Lib.hid (len_small (x := k) (by omega))
      have HL3 := Lib.hid (sum_len (n := n) (k := n + 1) (by omega))
      have HM := Lib.hid (limbsOf_length_mul k (stir n k))
      have HQ := Lib.hid (limbsOf_length_add (stP n k) (k * stir n k))
      clear HS HP X4 X hx hb E3
      have hw1 : IntKind.i64.wrap (k : Int) = (k : Int) := wrap_in (by omega)
      have hw2 : IntKind.u64.wrap (k : Int) = (k : Int) := by rw [IntKind.wrap_u64]; omega
      have HS := Lib.hid (fun (w' : World) (h : Ext w5 w') => (⟨(h.cell (p := ⟨u0.heap.size, 0, none⟩) (World.block_lt_of_cell? _ _ b0)).trans b0, (h.cell (p := ⟨u1.heap.size, 0, none⟩) (World.block_lt_of_cell? _ _ b1)).trans b1, (h.cell (p := ⟨u2.heap.size, 0, none⟩) (World.block_lt_of_cell? _ _ b2)).trans b2, (h.cell (p := ⟨u3.heap.size, 0, none⟩) (World.block_lt_of_cell? _ _ b3)).trans b3, (h.cell (p := ⟨u4.heap.size, 0, none⟩) (World.block_lt_of_cell? _ _ b4)).trans b4⟩ : w'.cell? ⟨u0.heap.size, 0, none⟩ = some (.slice A0 k0 c0) ∧ w'.cell? ⟨u1.heap.size, 0, none⟩ = some (.slice A1 k1 c1) ∧ w'.cell? ⟨u2.heap.size, 0, none⟩ = some (.slice A2 k2 c2) ∧ w'.cell? ⟨u3.heap.size, 0, none⟩ = some (.slice A m c) ∧ w'.cell? ⟨u4.heap.size, 0, none⟩ = some (.slice A4 k4 c4)))
      have Hp0 := Lib.hid p0
      have Hp1 := Lib.hid p1
      have Hp2 := Lib.hid p2
      have Hp3 := Lib.hid p3
      have Hp4 := Lib.hid p4
      clear p0 p1 p2 p3 p4
      go_region_held3 (fun w' => w'.cell? ⟨u0.heap.size, 0, none⟩ = some (.slice A0 k0 c0) ∧ w'.cell? ⟨u1.heap.size, 0, none⟩ = some (.slice A1 k1 c1) ∧ w'.cell? ⟨u2.heap.size, 0, none⟩ = some (.slice A2 k2 c2) ∧ w'.cell? ⟨u3.heap.size, 0, none⟩ = some (.slice A m c) ∧ w'.cell? ⟨u4.heap.size, 0, none⟩ = some (.slice A4 k4 c4)) (exact HS.out _ (by repeat first | assumption | exact Below.refl _ _ | refine ext_alloc ?_ _ | refine ext_drew ?_ | refine ext_set ?_ (by first | omega | (simp; done) | (simp; omega)) _)) (first
        | (go_at_call 20; (with_reducible refine (nof_e (m := k) (by omega) (by omega)).mono ?_); rintro e s1 ⟨B1, m1, d1, rfl, q1, z1, _⟩; have f1 : Ext w5 s1 := Ext.trans (by repeat first | assumption | exact Below.refl _ _ | refine ext_alloc ?_ _ | refine ext_drew ?_ | refine ext_set ?_ (by first | omega | (simp; done) | (simp; omega)) _) z1)
        | (go_at_call 24; (with_reducible refine (mul_n (NatV.below (CanV.nat q1 (by have := HL0.out; have := HL1.out; have := HL2.out; have := HL3.out; have := HM.out; have := HQ.out; unfold Fit; omega)) (by repeat first | assumption | exact Below.refl _ _ | refine ext_alloc ?_ _ | refine ext_drew ?_ | refine ext_set ?_ (by first | omega | (simp; done) | (simp; omega)) _)) (NatV.below (CanV.nat Hp1.out (by have := HL0.out; have := HL1.out; have := HL2.out; have := HL3.out; have := HM.out; have := HQ.out; unfold Fit; omega)) (by repeat first | assumption | exact Below.refl _ _ | refine ext_alloc ?_ _ | refine ext_drew ?_ | refine ext_set ?_ (by first | omega | (simp; done) | (simp; omega)) _)) (by have := HL0.out; have := HL1.out; have := HL2.out; have := HL3.out; have := HM.out; have := HQ.out; omega)).mono ?_); rintro e s2 ⟨B2, m2, d2, rfl, q2, z2, _⟩; have f2 : Ext w5 s2 := Ext.trans (by repeat first | assumption | exact Below.refl _ _ | refine ext_alloc ?_ _ | refine ext_drew ?_ | refine ext_set ?_ (by first | omega | (simp; done) | (simp; omega)) _) z2)
        | (go_at_call 21; (with_reducible refine (add_n (NatV.below (CanV.nat Hp0.out (by have := HL0.out; have := HL1.out; have := HL2.out; have := HL3.out; have := HM.out; have := HQ.out; unfold Fit; omega)) (by repeat first | assumption | exact Below.refl _ _ | refine ext_alloc ?_ _ | refine ext_drew ?_ | refine ext_set ?_ (by first | omega | (simp; done) | (simp; omega)) _)) (NatV.below (CanV.nat q2 (by have := HL0.out; have := HL1.out; have := HL2.out; have := HL3.out; have := HM.out; have := HQ.out; unfold Fit; omega)) (by repeat first | assumption | exact Below.refl _ _ | refine ext_alloc ?_ _ | refine ext_drew ?_ | refine ext_set ?_ (by first | omega | (simp; done) | (simp; omega)) _)) (by have := HL0.out; have := HL1.out; have := HL2.out; have := HL3.out; have := HM.out; have := HQ.out; omega) (by have := HL0.out; have := HL1.out; have := HL2.out; have := HL3.out; have := HM.out; have := HQ.out; omega)).mono ?_); rintro e s3 ⟨B3, m3, d3, rfl, q3, z3, _⟩; have f3 : Ext w5 s3 := Ext.trans (by repeat first | assumption | exact Below.refl _ _ | refine ext_alloc ?_ _ | refine ext_drew ?_ | refine ext_set ?_ (by first | omega | (simp; done) | (simp; omega)) _) z3)
        | (go_at_call 23; (with_reducible refine (cmp_same (NatV.below (CanV.nat Hp2.out (by have := HL0.out; have := HL1.out; have := HL2.out; have := HL3.out; have := HM.out; have := HQ.out; unfold Fit; omega)) (by repeat first | assumption | exact Below.refl _ _ | refine ext_alloc ?_ _ | refine ext_drew ?_ | refine ext_set ?_ (by first | omega | (simp; done) | (simp; omega)) _)) (NatV.below (CanV.nat q3 (by have := HL0.out; have := HL1.out; have := HL2.out; have := HL3.out; have := HM.out; have := HQ.out; unfold Fit; omega)) (by repeat first | assumption | exact Below.refl _ _ | refine ext_alloc ?_ _ | refine ext_drew ?_ | refine ext_set ?_ (by first | omega | (simp; done) | (simp; omega)) _))).mono ?_); rintro e s4 ⟨rfl, z4⟩; have f4 : Ext w5 s4 := Ext.trans (by repeat first | assumption | exact Below.refl _ _ | refine ext_alloc ?_ _ | refine ext_drew ?_ | refine ext_set ?_ (by first | omega | (simp; done) | (simp; omega)) _) z4)
        | (go_at_call 23; (with_reducible refine (cmp_same (NatV.below (CanV.nat Hp3.out (by have := HL0.out; have := HL1.out; have := HL2.out; have := HL3.out; have := HM.out; have := HQ.out; unfold Fit; omega)) (by repeat first | assumption | exact Below.refl _ _ | refine ext_alloc ?_ _ | refine ext_drew ?_ | refine ext_set ?_ (by first | omega | (simp; done) | (simp; omega)) _)) (NatV.below (CanV.nat Hp4.out (by have := HL0.out; have := HL1.out; have := HL2.out; have := HL3.out; have := HM.out; have := HQ.out; unfold Fit; omega)) (by repeat first | assumption | exact Below.refl _ _ | refine ext_alloc ?_ _ | refine ext_drew ?_ | refine ext_set ?_ (by first | omega | (simp; done) | (simp; omega)) _))).mono ?_); rintro e s5 ⟨rfl, z5⟩; have f5 : Ext w5 s5 := Ext.trans (by repeat first | assumption | exact Below.refl _ _ | refine ext_alloc ?_ _ | refine ext_drew ?_ | refine ext_set ?_ (by first | omega | (simp; done) | (simp; omega)) _) z5))
      all_goals go_wp2
      all_goals go_ret
      all_goals exact ⟨rfl, HE.out.trans (by repeat first | assumption | exact Below.refl _ _ | refine ext_alloc ?_ _ | refine ext_drew ?_ | refine ext_set ?_ (by first | omega | (simp; done) | (simp; omega)) _)⟩

end Go.Proofs.YthikgbgmnlmmlaaDoor
