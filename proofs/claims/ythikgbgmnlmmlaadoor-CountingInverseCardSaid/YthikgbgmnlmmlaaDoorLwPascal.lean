/- The walk of CountingPascal. -/
import Derived.Test.YthikgbgmnlmmlaaDoorLwChoices
set_option linter.unusedVariables false
set_option linter.unusedSimpArgs false
set_option maxRecDepth 100000
namespace Go.Proofs.YthikgbgmnlmmlaaDoor
open Go.RowKit Num

theorem mod_i {a b : Int} {w : World} (hb : 0 < b) (hb2 : b ≤ 1000) (ha : -9223372036854775808 ≤ a ∧ a ≤ 9223372036854775807) :
    Calls Tryd.prog 18 #[.int .i64 a, .int .i64 b] w (fun e w' => ∃ m : Nat, (m : Int) < b ∧ e = .returned (.int .i64 m) ∧ w' = w) := by
  have h1 : a.tmod b < b := Int.tmod_lt_of_pos a hb
  have h2 : -b < a.tmod b := by
    have := Int.lt_tmod_of_pos a hb
    omega
  have hw : IntKind.i64.wrap (a.tmod b) = a.tmod b := wrap_in (by omega)
  have hb0 : ¬ b = 0 := by omega
  by_cases hn : a.tmod b < 0
  · go_enter Tryd.func18, Tryd.ntmps18
    go_wp2
    go_ret
    exact ⟨(a.tmod b + b).toNat, by omega, by go_num, rfl⟩
  · go_enter Tryd.func18, Tryd.ntmps18
    go_wp2
    go_ret
    exact ⟨(a.tmod b).toNat, by omega, by go_num, rfl⟩

theorem cmpN_self (n : Nat) : cmpN n n = 0 := by simp [cmpN]
theorem cmp_same {x y : Value} {n : Nat} {w : World} (hx : NatV w x n) (hy : NatV w y n) :
    Calls Tryd.prog 23 #[.agg #[x], .agg #[y]] w (fun e w' => e = .returned (.int .i64 0) ∧ Ext w w') := by
  have := cmp_n hx hy
  rwa [cmpN_self] at this

theorem cbin_z {n k : Nat} {a z : Int} {w : World} (hn : n ≤ 300) (ha : a = (n : Int)) (hz : z = (k : Int)) : Calls Tryd.prog 13 #[.int .i64 a, .int .i64 z] w (GivesT w (chs n k) 0) := by
  subst ha hz
  have := cbin_ok (n := (n : Int)) (k := (k : Int)) (w := w) (by omega) (by omega)
  rwa [Int.toNat_natCast, binI_nat] at this
theorem cbin_sub {n k : Nat} {a z : Int} {w : World} (hn : n ≤ 300) (ha : a = (n : Int)) (hz : z = (n : Int) - (k : Int)) : Calls Tryd.prog 13 #[.int .i64 a, .int .i64 z] w (GivesT w (chs n k) 0) := by
  subst ha
  have := cbin_ok (n := (n : Int)) (k := z) (w := w) (by omega) (by omega)
  rw [Int.toNat_natCast] at this
  by_cases h : n < k
  · rw [binI_out (by omega)] at this
    rwa [chs_gt _ _ h]
  · rw [show z = ((n - k : Nat) : Int) from by omega, binI_nat] at this
    rw [chs_symm _ _ (by omega), show z = ((n - k : Nat) : Int) from by omega]
    exact this
theorem cfal_z {n k : Nat} {w : World} (hn : n ≤ 200) (hk : k ≤ 200) : Calls Tryd.prog 27 #[.int .i64 n, .int .i64 k] w (GivesT w (fall n k) 0) := by
  have := cfal_any (n := (n : Int)) (k := (k : Int)) (w := w)
  unfold falV okE at this
  rwa [if_pos (by omega), if_pos (by omega), Int.toNat_natCast, Int.toNat_natCast] at this
theorem cfac_z {n : Nat} {w : World} (hn : n ≤ 200) : Calls Tryd.prog 25 #[.int .i64 n] w (GivesT w (fact n) 0) := by
  have := cfac_any (n := (n : Int)) (w := w)
  unfold facV okE at this
  rwa [if_pos (by omega), if_pos (by omega), Int.toNat_natCast] at this

set_option maxHeartbeats 4000000 in
theorem law_CountingPascal {a0 a1 : Int} {w : World} (wa : -9223372036854775808 ≤ a0 ∧ a0 ≤ 9223372036854775807) (wb : -9223372036854775808 ≤ a1 ∧ a1 ≤ 9223372036854775807) :
    Calls Tryd.prog 7 #[.int .i64 a0, .int .i64 a1] w (fun e w' => e = .returned (.bool true) ∧ Ext w w') := by
  have HA := Lib.hid wa
  have HB := Lib.hid wb
  clear wa wb
  go_enter Tryd.func7, Tryd.ntmps7
  go_wp2_with (go_at_call 12; (with_reducible refine awake_true.mono ?_); rintro e w0 ⟨rfl, E0⟩)
  refine (mod_i (by omega) (by omega) HA.out).mono ?_
  rintro e _ ⟨n, hn, rfl, rfl⟩
  go_wp2_with fail
  refine (mod_i (by omega) (by omega) HB.out).mono ?_
  rintro e _ ⟨k, hk, rfl, rfl⟩
  clear HA HB
  go_wp2_with fail
  refine (cbin_z (n := n) (k := k) (by omega) (by omega) (by omega)).mono ?_
  rintro e u0 ⟨A0, k0, c0, rfl, h0, x0, _⟩
  have y0 := ext_alloc x0 (.cells #[.slice A0 k0 c0] 25)
  have p0 := CanV.alloc h0 (.cells #[.slice A0 k0 c0] 25)
  have b0 : (u0.alloc (.cells #[.slice A0 k0 c0] 25)).cell? ⟨u0.heap.size, 0, none⟩ = some (.slice A0 k0 c0) := by simp [go_sem]
  have E1 := Ext.trans E0 y0
  clear x0 h0 y0
  go_wp2_with fail
  generalize u0.alloc (.cells #[.slice A0 k0 c0] 25) = w1 at *
  refine (cbin_z (n := n) (k := k + 1) (by omega) (by omega) (by omega)).mono ?_
  rintro e u1 ⟨A1, k1, c1, rfl, h1, x1, _⟩
  have y1 := ext_alloc x1 (.cells #[.slice A1 k1 c1] 25)
  have p1 := CanV.alloc h1 (.cells #[.slice A1 k1 c1] 25)
  have b1 : (u1.alloc (.cells #[.slice A1 k1 c1] 25)).cell? ⟨u1.heap.size, 0, none⟩ = some (.slice A1 k1 c1) := by simp [go_sem]
  have p0 := CanV.below p0 y1
  have b0 := (y1.cell (p := ⟨u0.heap.size, 0, none⟩) (World.block_lt_of_cell? _ _ b0)).trans b0
  have E2 := Ext.trans E1 y1
  clear x1 h1 y1
  go_wp2_with fail
  generalize u1.alloc (.cells #[.slice A1 k1 c1] 25) = w2 at *
  refine (cbin_z (n := n + 1) (k := k + 1) (by omega) (by omega) (by omega)).mono ?_
  rintro e u2 ⟨A2, k2, c2, rfl, h2, x2, _⟩
  have y2 := ext_alloc x2 (.cells #[.slice A2 k2 c2] 25)
  have p2 := CanV.alloc h2 (.cells #[.slice A2 k2 c2] 25)
  have b2 : (u2.alloc (.cells #[.slice A2 k2 c2] 25)).cell? ⟨u2.heap.size, 0, none⟩ = some (.slice A2 k2 c2) := by simp [go_sem]
  have p0 := CanV.below p0 y2
  have b0 := (y2.cell (p := ⟨u0.heap.size, 0, none⟩) (World.block_lt_of_cell? _ _ b0)).trans b0
  have p1 := CanV.below p1 y2
  have b1 := (y2.cell (p := ⟨u1.heap.size, 0, none⟩) (World.block_lt_of_cell? _ _ b1)).trans b1
  have E3 := Ext.trans E2 y2
  clear x2 h2 y2
  go_wp2_with fail
  generalize u2.alloc (.cells #[.slice A2 k2 c2] 25) = w3 at *
  refine (cbin_sub (n := n) (k := k) (by omega) (by omega) (by omega)).mono ?_
  rintro e u3 ⟨A3, k3, c3, rfl, h3, x3, _⟩
  have y3 := ext_alloc x3 (.cells #[.slice A3 k3 c3] 25)
  have p3 := CanV.alloc h3 (.cells #[.slice A3 k3 c3] 25)
  have b3 : (u3.alloc (.cells #[.slice A3 k3 c3] 25)).cell? ⟨u3.heap.size, 0, none⟩ = some (.slice A3 k3 c3) := by simp [go_sem]
  have p0 := CanV.below p0 y3
  have b0 := (y3.cell (p := ⟨u0.heap.size, 0, none⟩) (World.block_lt_of_cell? _ _ b0)).trans b0
  have p1 := CanV.below p1 y3
  have b1 := (y3.cell (p := ⟨u1.heap.size, 0, none⟩) (World.block_lt_of_cell? _ _ b1)).trans b1
  have p2 := CanV.below p2 y3
  have b2 := (y3.cell (p := ⟨u2.heap.size, 0, none⟩) (World.block_lt_of_cell? _ _ b2)).trans b2
  have E4 := Ext.trans E3 y3
  clear x3 h3 y3
  go_wp2_with fail
  generalize u3.alloc (.cells #[.slice A3 k3 c3] 25) = w4 at *
  refine (cfal_z (n := n) (k := k) (by omega) (by omega)).mono ?_
  rintro e u4 ⟨A4, k4, c4, rfl, h4, x4, _⟩
  have y4 := ext_alloc x4 (.cells #[.slice A4 k4 c4] 25)
  have p4 := CanV.alloc h4 (.cells #[.slice A4 k4 c4] 25)
  have b4 : (u4.alloc (.cells #[.slice A4 k4 c4] 25)).cell? ⟨u4.heap.size, 0, none⟩ = some (.slice A4 k4 c4) := by simp [go_sem]
  have p0 := CanV.below p0 y4
  have b0 := (y4.cell (p := ⟨u0.heap.size, 0, none⟩) (World.block_lt_of_cell? _ _ b0)).trans b0
  have p1 := CanV.below p1 y4
  have b1 := (y4.cell (p := ⟨u1.heap.size, 0, none⟩) (World.block_lt_of_cell? _ _ b1)).trans b1
  have p2 := CanV.below p2 y4
  have b2 := (y4.cell (p := ⟨u2.heap.size, 0, none⟩) (World.block_lt_of_cell? _ _ b2)).trans b2
  have p3 := CanV.below p3 y4
  have b3 := (y4.cell (p := ⟨u3.heap.size, 0, none⟩) (World.block_lt_of_cell? _ _ b3)).trans b3
  have E5 := Ext.trans E4 y4
  clear x4 h4 y4
  go_wp2_with fail
  generalize u4.alloc (.cells #[.slice A4 k4 c4] 25) = w5 at *
  refine (cfac_z (n := k) (by omega)).mono ?_
  rintro e u5 ⟨A5, k5, c5, rfl, h5, x5, _⟩
  have y5 := ext_alloc x5 (.cells #[.slice A5 k5 c5] 25)
  have p5 := CanV.alloc h5 (.cells #[.slice A5 k5 c5] 25)
  have b5 : (u5.alloc (.cells #[.slice A5 k5 c5] 25)).cell? ⟨u5.heap.size, 0, none⟩ = some (.slice A5 k5 c5) := by simp [go_sem]
  have p0 := CanV.below p0 y5
  have b0 := (y5.cell (p := ⟨u0.heap.size, 0, none⟩) (World.block_lt_of_cell? _ _ b0)).trans b0
  have p1 := CanV.below p1 y5
  have b1 := (y5.cell (p := ⟨u1.heap.size, 0, none⟩) (World.block_lt_of_cell? _ _ b1)).trans b1
  have p2 := CanV.below p2 y5
  have b2 := (y5.cell (p := ⟨u2.heap.size, 0, none⟩) (World.block_lt_of_cell? _ _ b2)).trans b2
  have p3 := CanV.below p3 y5
  have b3 := (y5.cell (p := ⟨u3.heap.size, 0, none⟩) (World.block_lt_of_cell? _ _ b3)).trans b3
  have p4 := CanV.below p4 y5
  have b4 := (y5.cell (p := ⟨u4.heap.size, 0, none⟩) (World.block_lt_of_cell? _ _ b4)).trans b4
  have E6 := Ext.trans E5 y5
  clear x5 h5 y5
  go_upto_region 11 with (fail)
  generalize u5.alloc (.cells #[.slice A5 k5 c5] 25) = w6 at *
  rw [chs_succ] at p2
  rw [fall_chs] at p4
  have HL0 := Lib.hid (chs_len n k)
  have HL1 := Lib.hid (chs_len n (k + 1))
  have HL5 := Lib.hid (fact_len k (by omega))
  have HP := Lib.hid (limbsOf_length_mul (chs n k) (fact k))
  have HQ := Lib.hid (limbsOf_length_add (chs n k) (chs n (k + 1)))
  have HS := Lib.hid (fun (w' : World) (h : Ext w6 w') => (⟨(h.cell (p := ⟨u0.heap.size, 0, none⟩) (World.block_lt_of_cell? _ _ b0)).trans b0, (h.cell (p := ⟨u1.heap.size, 0, none⟩) (World.block_lt_of_cell? _ _ b1)).trans b1, (h.cell (p := ⟨u2.heap.size, 0, none⟩) (World.block_lt_of_cell? _ _ b2)).trans b2, (h.cell (p := ⟨u3.heap.size, 0, none⟩) (World.block_lt_of_cell? _ _ b3)).trans b3, (h.cell (p := ⟨u4.heap.size, 0, none⟩) (World.block_lt_of_cell? _ _ b4)).trans b4, (h.cell (p := ⟨u5.heap.size, 0, none⟩) (World.block_lt_of_cell? _ _ b5)).trans b5⟩ : w'.cell? ⟨u0.heap.size, 0, none⟩ = some (.slice A0 k0 c0) ∧ w'.cell? ⟨u1.heap.size, 0, none⟩ = some (.slice A1 k1 c1) ∧ w'.cell? ⟨u2.heap.size, 0, none⟩ = some (.slice A2 k2 c2) ∧ w'.cell? ⟨u3.heap.size, 0, none⟩ = some (.slice A3 k3 c3) ∧ w'.cell? ⟨u4.heap.size, 0, none⟩ = some (.slice A4 k4 c4) ∧ w'.cell? ⟨u5.heap.size, 0, none⟩ = some (.slice A5 k5 c5)))
  have H0 := Lib.hid p0
  have H1 := Lib.hid p1
  have H2 := Lib.hid p2
  have H3 := Lib.hid p3
  have H4 := Lib.hid p4
  have H5 := Lib.hid p5
  clear p0 p1 p2 p3 p4 p5
  go_region_held3 (fun w' => w'.cell? ⟨u0.heap.size, 0, none⟩ = some (.slice A0 k0 c0) ∧ w'.cell? ⟨u1.heap.size, 0, none⟩ = some (.slice A1 k1 c1) ∧ w'.cell? ⟨u2.heap.size, 0, none⟩ = some (.slice A2 k2 c2) ∧ w'.cell? ⟨u3.heap.size, 0, none⟩ = some (.slice A3 k3 c3) ∧ w'.cell? ⟨u4.heap.size, 0, none⟩ = some (.slice A4 k4 c4) ∧ w'.cell? ⟨u5.heap.size, 0, none⟩ = some (.slice A5 k5 c5)) (exact HS.out _ (by repeat first | assumption | exact Below.refl _ _ | refine ext_alloc ?_ _ | refine ext_drew ?_ | refine ext_set ?_ (by first | omega | (simp; done) | (simp; omega)) _)) (first
    | (go_at_call 21; (with_reducible refine (add_n (NatV.below (CanV.nat H0.out (by have := HL0.out; unfold Fit; omega)) (by repeat first | assumption | exact Below.refl _ _ | refine ext_alloc ?_ _ | refine ext_drew ?_ | refine ext_set ?_ (by first | omega | (simp; done) | (simp; omega)) _)) (NatV.below (CanV.nat H1.out (by have := HL1.out; unfold Fit; omega)) (by repeat first | assumption | exact Below.refl _ _ | refine ext_alloc ?_ _ | refine ext_drew ?_ | refine ext_set ?_ (by first | omega | (simp; done) | (simp; omega)) _)) (by have := HL0.out; omega) (by have := HL1.out; omega)).mono ?_); rintro e s1 ⟨B1, m1, d1, rfl, q1, z1, _⟩; have f1 : Ext w6 s1 := Ext.trans (by repeat first | assumption | exact Below.refl _ _ | refine ext_alloc ?_ _ | refine ext_drew ?_ | refine ext_set ?_ (by first | omega | (simp; done) | (simp; omega)) _) z1; obtain ⟨g10, g11, g12, g13, g14, g15⟩ := HS.out _ f1)
    | (go_at_call 23; (with_reducible refine (cmp_same (NatV.below (CanV.nat H2.out (by have := HL0.out; have := HL1.out; have := HQ.out; unfold Fit; omega)) (by repeat first | assumption | exact Below.refl _ _ | refine ext_alloc ?_ _ | refine ext_drew ?_ | refine ext_set ?_ (by first | omega | (simp; done) | (simp; omega)) _)) (NatV.below (CanV.nat q1 (by have := HL0.out; have := HL1.out; have := HQ.out; unfold Fit; omega)) (by repeat first | assumption | exact Below.refl _ _ | refine ext_alloc ?_ _ | refine ext_drew ?_ | refine ext_set ?_ (by first | omega | (simp; done) | (simp; omega)) _))).mono ?_); rintro e s2 ⟨rfl, z2⟩; have f2 : Ext w6 s2 := Ext.trans (by repeat first | assumption | exact Below.refl _ _ | refine ext_alloc ?_ _ | refine ext_drew ?_ | refine ext_set ?_ (by first | omega | (simp; done) | (simp; omega)) _) z2; obtain ⟨g20, g21, g22, g23, g24, g25⟩ := HS.out _ f2)
    | (go_at_call 29; (with_reducible refine (bnat_same (CanV.below H0.out (by repeat first | assumption | exact Below.refl _ _ | refine ext_alloc ?_ _ | refine ext_drew ?_ | refine ext_set ?_ (by first | omega | (simp; done) | (simp; omega)) _)) (CanV.below H3.out (by repeat first | assumption | exact Below.refl _ _ | refine ext_alloc ?_ _ | refine ext_drew ?_ | refine ext_set ?_ (by first | omega | (simp; done) | (simp; omega)) _))).mono ?_); rintro e s3 ⟨rfl, z3⟩; have f3 : Ext w6 s3 := Ext.trans (by repeat first | assumption | exact Below.refl _ _ | refine ext_alloc ?_ _ | refine ext_drew ?_ | refine ext_set ?_ (by first | omega | (simp; done) | (simp; omega)) _) z3; obtain ⟨g30, g31, g32, g33, g34, g35⟩ := HS.out _ f3)
    | (go_at_call 24; (with_reducible refine (mul_n (NatV.below (CanV.nat H0.out (by have := HL0.out; unfold Fit; omega)) (by repeat first | assumption | exact Below.refl _ _ | refine ext_alloc ?_ _ | refine ext_drew ?_ | refine ext_set ?_ (by first | omega | (simp; done) | (simp; omega)) _)) (NatV.below (CanV.nat H5.out (by have := HL5.out; unfold Fit; omega)) (by repeat first | assumption | exact Below.refl _ _ | refine ext_alloc ?_ _ | refine ext_drew ?_ | refine ext_set ?_ (by first | omega | (simp; done) | (simp; omega)) _)) (by have := HL0.out; have := HL5.out; omega)).mono ?_); rintro e s4 ⟨B4, m4, d4, rfl, q4, z4, _⟩; have f4 : Ext w6 s4 := Ext.trans (by repeat first | assumption | exact Below.refl _ _ | refine ext_alloc ?_ _ | refine ext_drew ?_ | refine ext_set ?_ (by first | omega | (simp; done) | (simp; omega)) _) z4; obtain ⟨g40, g41, g42, g43, g44, g45⟩ := HS.out _ f4)
    | (go_at_call 23; (with_reducible refine (cmp_same (NatV.below (CanV.nat H4.out (by have := HL0.out; have := HL5.out; have := HP.out; unfold Fit; omega)) (by repeat first | assumption | exact Below.refl _ _ | refine ext_alloc ?_ _ | refine ext_drew ?_ | refine ext_set ?_ (by first | omega | (simp; done) | (simp; omega)) _)) (NatV.below (CanV.nat q4 (by have := HL0.out; have := HL5.out; have := HP.out; unfold Fit; omega)) (by repeat first | assumption | exact Below.refl _ _ | refine ext_alloc ?_ _ | refine ext_drew ?_ | refine ext_set ?_ (by first | omega | (simp; done) | (simp; omega)) _))).mono ?_); rintro e s5 ⟨rfl, z5⟩; have f5 : Ext w6 s5 := Ext.trans (by repeat first | assumption | exact Below.refl _ _ | refine ext_alloc ?_ _ | refine ext_drew ?_ | refine ext_set ?_ (by first | omega | (simp; done) | (simp; omega)) _) z5; obtain ⟨g50, g51, g52, g53, g54, g55⟩ := HS.out _ f5))
  all_goals go_wp2
  all_goals go_ret
  all_goals exact ⟨rfl, E6.trans (by repeat first | assumption | exact Below.refl _ _ | refine ext_alloc ?_ _ | refine ext_drew ?_ | refine ext_set ?_ (by first | omega | (simp; done) | (simp; omega)) _)⟩

end Go.Proofs.YthikgbgmnlmmlaaDoor
