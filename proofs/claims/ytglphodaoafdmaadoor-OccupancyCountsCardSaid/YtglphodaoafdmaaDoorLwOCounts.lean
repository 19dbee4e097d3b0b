/- The walk of OccupancyCounts. -/
import Derived.Test.YtglphodaoafdmaaDoorOcW
set_option linter.unusedVariables false
set_option linter.unusedSimpArgs false
set_option maxRecDepth 100000
namespace Go.Proofs.YtglphodaoafdmaaDoor
open Go.RowKit Num

/-- A box that is written in a loop: a canonical fraction. -/
def FIn (W wr : World) (b : Nat) (q : Rat) : Prop := ∃ c A k l A' k' l', FBox wr b (.bool c) (.slice A k l) (.slice A' k' l') ∧ FracV wr c (.slice A k l) (.slice A' k' l') q ∧ Ext W wr
theorem nat_frac (n : Nat) : ((n : Nat) : Rat) = frac false n 1 := by
  rw [frac_false]
  have : ((1 : Nat) : Rat) = 1 := rfl
  rw [this]
  grind
theorem nat_fb {n L : Nat} (h : (limbsOf n).length ≤ L) (hL : 1 ≤ L) : FB ((n : Nat) : Rat) L := by
  rw [nat_frac]
  exact frac_fb h (by rw [limbsOf_one (by omega) (by omega)]; simpa using hL) hL
theorem all_next (D k : Nat) : ((D ^ k : Nat) : Rat) * (((D : Int) : Rat) / ((1 : Int) : Rat)) = ((D ^ (k + 1) : Nat) : Rat) := by
  rw [Nat.pow_succ, Rat.natCast_mul, Rat.intCast_natCast]
  simp only [Rat.intCast_one, Rat.div_def]
  grind
theorem all_first : ((1 : Int) : Rat) / ((1 : Int) : Rat) = ((1 : Nat) : Rat) := by decide +kernel
theorem counts_val {n D d : Nat} (hD : 0 < D) : cmpQ (pchI n D d * ((D ^ n : Nat) : Rat)) (frac false (stir n d * fact d) 1 * frac false (chs D d) 1) = 0 := by
  rw [cmpQ_zero]
  unfold pchI
  rw [if_neg (by omega), Int.toNat_natCast, ← nat_frac, ← nat_frac]
  unfold pch
  rw [Rat.div_mul_cancel (pow_ne hD), ← occ_sets, Rat.natCast_mul, Rat.mul_comm]
theorem one_limb (w : World) : NatV (w.alloc (.cells #[.int .u32 1] 53)) (.slice (some ⟨w.heap.size, 0, none⟩) 1 1) 1 := ⟨[1], U32s.lit w 1, by simp, by simp, by simp [val]⟩

set_option maxHeartbeats 8000000 in
theorem law_OCounts {n D d : Int} {w : World} (hn : -9223372036854775808 ≤ n ∧ n ≤ 9223372036854775807) (hD : -9223372036854775808 ≤ D ∧ D ≤ 9223372036854775807) (hd : -9223372036854775808 ≤ d ∧ d ≤ 9223372036854775807) (ht : Tab10 w) :
    Calls Tryd.prog 6 #[.int .i64 n, .int .i64 D, .int .i64 d] w (fun e w' => e = .returned (.bool true) ∧ Ext w w') := by
  go_enter Tryd.func6, Tryd.ntmps6
  go_wp2_with fail
  refine (oawake ht).mono ?_
  rintro e W0 ⟨rfl, V0⟩
  go_wp2_with fail
  refine (onumbers hn hD).mono ?_
  rintro e w1 ⟨N, k, hmk, rfl, rfl⟩
  obtain ⟨DD, hDD⟩ : ∃ DD : Nat, DD = k + 1 := ⟨_, rfl⟩
  have hDe : (k : Int) + 1 = (DD : Int) := by omega
  have hN2 : N ≤ 30 := by omega
  have hD1 : 1 ≤ DD := by omega
  have hD2 : DD ≤ 60 := by omega
  rw [hDe]
  clear hDD hDe hmk
  go_wp2_with fail
  refine (mod_i (b := 31) (by omega) (by omega) hd).mono ?_
  rintro e w2 ⟨j, hj, rfl, rfl⟩
  have hj2 : j ≤ 30 := by omega
  have hD0 : 0 < DD := by omega
  have HV := Lib.hid (counts_val (n := N) (d := j) hD0)
  have HL1 := Lib.hid (onto_small hN2 hj2)
  have HL2 := Lib.hid (chs_small (d := j) hD2)
  have HOD := Lib.hid (show -9223372036854775808 ≤ (DD : Int) ∧ (DD : Int) ≤ 9223372036854775807 from by omega)
  have HFD := Lib.hid (fb_i64 HOD.out (show -9223372036854775808 ≤ (1 : Int) ∧ (1 : Int) ≤ 9223372036854775807 from by omega))
  have HFP := Lib.hid (show FB (pchI N DD j) 130 from by
    unfold pchI
    rw [if_neg (by omega), Int.toNat_natCast, ← pch_frac]
    refine frac_fb ?_ ?_ (by decide)
    · have h3 := limbsOf_length_mul (chs DD j) (stir N j * fact j)
      have := HL1.out
      have := HL2.out
      omega
    · have := all_small hN2 hD2
      omega)
  have HFA := Lib.hid (fun k (hk : k ≤ N) => (nat_fb (pow_limbs (n := k) (show DD < 1000000000 from by omega) (by omega)) (by decide) : FB ((DD ^ k : Nat) : Rat) 31))
  clear hd hj hn hD ht
  go_wp2_with fail
  refine (csj_in (n := N) (k := j) (by omega) (by omega)).mono ?_
  rintro e w3 ⟨A3, k3, c3, rfl, h3, y3, n3⟩
  clear n3
  go_upto_region 6 with (fail)
  have hB3 : (w3.alloc (.cells #[.slice A3 k3 c3] 29)).cell? ⟨w3.heap.size, 0, none⟩ = some (.slice A3 k3 c3) := by simp [go_sem]
  have Y3 : Ext w2 (w3.alloc (.cells #[.slice A3 k3 c3] 29)) := ext_alloc y3 _
  have h3 := h3.below (ext_alloc (Below.refl _ _) (.cells #[.slice A3 k3 c3] 29))
  have hsz3 : w3.heap.size < (w3.alloc (.cells #[.slice A3 k3 c3] 29)).heap.size := by simp
  have hlo3 : w2.heap.size ≤ w3.heap.size := y3.size
  generalize w3.alloc (.cells #[.slice A3 k3 c3] 29) = W3 at *
  generalize w3.heap.size = B3 at *
  have HB3 := Lib.hid (fun (w' : World) (h : Ext W3 w') => ((h.cell (p := ⟨B3, 0, none⟩) (World.block_lt_of_cell? _ _ hB3)).trans hB3 : w'.cell? ⟨B3, 0, none⟩ = some (.slice A3 k3 c3)))
  clear hB3 y3
  go_wp2_with fail
  refine (cbin_ok (n := (DD : Int)) (k := (j : Int)) (by omega) (by omega)).mono ?_
  rintro e w4 ⟨A4, k4, c4, rfl, h4, y4, n4⟩
  rw [Int.toNat_natCast, binI_nat] at h4
  have h3 := h3.below y4
  clear n4
  go_upto_region 7 with (fail)
  have hB4 : (w4.alloc (.cells #[.slice A4 k4 c4] 29)).cell? ⟨w4.heap.size, 0, none⟩ = some (.slice A4 k4 c4) := by simp [go_sem]
  have Y4 : Ext W3 (w4.alloc (.cells #[.slice A4 k4 c4] 29)) := ext_alloc y4 _
  have h3 := h3.below (ext_alloc (Below.refl _ _) (.cells #[.slice A4 k4 c4] 29))
  have h4 := h4.below (ext_alloc (Below.refl _ _) (.cells #[.slice A4 k4 c4] 29))
  have hsz4 : w4.heap.size < (w4.alloc (.cells #[.slice A4 k4 c4] 29)).heap.size := by simp
  have hlo4 : W3.heap.size ≤ w4.heap.size := y4.size
  generalize w4.alloc (.cells #[.slice A4 k4 c4] 29) = W4 at *
  generalize w4.heap.size = B4 at *
  have HB4 := Lib.hid (fun (w' : World) (h : Ext W4 w') => ((h.cell (p := ⟨B4, 0, none⟩) (World.block_lt_of_cell? _ _ hB4)).trans hB4 : w'.cell? ⟨B4, 0, none⟩ = some (.slice A4 k4 c4)))
  clear hB4 y4
  go_wp2_with fail
  refine (ochance_ok (n := N) (D := DD) (d := (j : Int)) hN2 hD1 hD2).mono ?_
  rintro e w5 ⟨b5, A5, k5, c5, A5', k5', c5', rfl, h5, y5, n5, n5'⟩
  have h3 := h3.below y5
  have h4 := h4.below y5
  clear n5 n5'
  go_upto_region 8 with (fail)
  have hG5 := FBox.new w5 (.bool b5) (.slice A5 k5 c5) (.slice A5' k5' c5') 31
  have Y5 : Ext W4 (w5.alloc (.cells #[.bool b5, .slice A5 k5 c5, .slice A5' k5' c5'] 31)) := ext_alloc y5 _
  have h3 := h3.below (ext_alloc (Below.refl _ _) (.cells #[.bool b5, .slice A5 k5 c5, .slice A5' k5' c5'] 31))
  have h4 := h4.below (ext_alloc (Below.refl _ _) (.cells #[.bool b5, .slice A5 k5 c5, .slice A5' k5' c5'] 31))
  have h5 := h5.below (ext_alloc (Below.refl _ _) (.cells #[.bool b5, .slice A5 k5 c5, .slice A5' k5' c5'] 31))
  have hsz5 : w5.heap.size < (w5.alloc (.cells #[.bool b5, .slice A5 k5 c5, .slice A5' k5' c5'] 31)).heap.size := by simp
  generalize w5.alloc (.cells #[.bool b5, .slice A5 k5 c5, .slice A5' k5' c5'] 31) = W5 at *
  generalize w5.heap.size = B5 at *
  go_wp2_with fail
  refine (fof_n (n := 1) (d := 1) (by omega) (by omega)).mono ?_
  rintro e w6 ⟨b6, A6, k6, c6, A6', k6', c6', rfl, h6, y6, n6, n6'⟩
  rw [all_first] at h6
  have hlo : W5.heap.size ≤ w6.heap.size := y6.size
  clear n6 n6'
  go_wp2
  have hG6 := FBox.new w6 (.bool b6) (.slice A6 k6 c6) (.slice A6' k6' c6') 31
  have Y6 : Ext W5 (w6.alloc (.cells #[.bool b6, .slice A6 k6 c6, .slice A6' k6' c6'] 31)) := ext_alloc y6 _
  have h6 := h6.below (ext_alloc (Below.refl _ _) (.cells #[.bool b6, .slice A6 k6 c6, .slice A6' k6' c6'] 31))
  have hsz6 : w6.heap.size < (w6.alloc (.cells #[.bool b6, .slice A6 k6 c6, .slice A6' k6' c6'] 31)).heap.size := by simp
  generalize w6.alloc (.cells #[.bool b6, .slice A6 k6 c6, .slice A6' k6' c6'] 31) = W6 at *
  generalize w6.heap.size = B6 at *
  have HG5 := Lib.hid (fun (w' : World) (h : Ext W5 w') => hG5.below h)
  have HP5 := Lib.hid (fun (w' : World) (h : Ext W5 w') => FracV.any (h5.below h) HFP.out (by omega))
  have HN3 := Lib.hid (fun (w' : World) (h : Ext W5 w') => (⟨(h3.nat (by have := HL1.out; unfold Fit; omega)).below h, (h4.nat (by have := HL2.out; unfold Fit; omega)).below h⟩ : NatV w' (.slice A3 k3 c3) (stir N j * fact j) ∧ NatV w' (.slice A4 k4 c4) (chs DD j)))
  clear hG5 h5 h3 h4 y5 hsz5 y6
  go_loopw [14] (fun iv wr => ∃ k : Nat, k ≤ N ∧ iv = .int .i64 k ∧ FIn W5 wr B6 ((DD ^ k : Nat) : Rat)) (fun iv _ => N - (intOf iv).toNat)
  case atStart => exact ⟨0, Nat.zero_le _, rfl, b6, A6, k6, c6, A6', k6', c6', hG6, by rw [Nat.pow_zero]; exact h6, Y6⟩
  case round =>
    clear hG6 h6 Y6
    obtain ⟨k, hk, rfl, cc, MA, mk, ml, MA', mk', ml', hM, vM, xM⟩ := hrel
    have HM := Lib.hid (fun (w' : World) (h : Ext wr w') => hM.below h)
    have hMl := hM.lt
    obtain ⟨m0, m1, m2, gm0, gm1, gm2⟩ := hM
    by_cases hkl : k < N
    · have HA := Lib.hid (all_next DD k)
      have HMV := Lib.hid (fun (w' : World) (h : Ext wr w') => FracV.any (vM.below h) (HFA.out k (by omega)) (by omega))
      have f0 : Ext wr wr := Below.refl _ _
      have hX := xM
      clear vM
      go_upto_region 12 with (fail)
      go_region_law (first
        | (go_simp; go_at_call 23; (with_reducible refine (fof_n (n := (DD : Int)) (d := 1) (by omega) (by omega)).mono ?_); rintro _ s1 ⟨b7, A7, k7, c7, B7, l7, d7, rfl, h7, z1, _⟩; have f1 : Ext wr s1 := Ext.trans (by first | ((repeat first | assumption | exact Below.refl _ _ | refine ext_alloc ?_ _ | refine ext_drew ?_ | refine ext_set ?_ (by first | omega | (simp; done) | (simp; omega)) _); done) | fail) z1; obtain ⟨m0, m1, m2, gm0, gm1, gm2⟩ := HM.out _ f1)
        | (go_simp; go_at_call 22; (with_reducible refine (mul_f (HMV.out _ (by first | ((repeat first | assumption | exact Below.refl _ _ | refine ext_alloc ?_ _ | refine ext_drew ?_ | refine ext_set ?_ (by first | omega | (simp; done) | (simp; omega)) _); done) | fail)) (FracV.any (h7.below (by first | ((repeat first | assumption | exact Below.refl _ _ | refine ext_alloc ?_ _ | refine ext_drew ?_ | refine ext_set ?_ (by first | omega | (simp; done) | (simp; omega)) _); done) | fail)) HFD.out (by omega)) (by omega)).mono ?_); rintro _ s2 ⟨b8, A8, k8, c8, B8, l8, d8, rfl, h8, z2, n8, m8⟩; have f2 : Ext wr s2 := Ext.trans (by first | ((repeat first | assumption | exact Below.refl _ _ | refine ext_alloc ?_ _ | refine ext_drew ?_ | refine ext_set ?_ (by first | omega | (simp; done) | (simp; omega)) _); done) | fail) z2; obtain ⟨m0, m1, m2, gm0, gm1, gm2⟩ := HM.out _ f2))
      all_goals go_wp2
      all_goals go_roundw
      all_goals first
        | exact ⟨k + 1, by omega, by go_num, b8, A8, k8, c8, B8, l8, d8, (HM.out _ f2).put _ _ _, FracV.put (by rw [← HA.out]; exact h8) n8 m8 (by have := f1.size; omega) _ _ _, ext_put (hX.trans f2) (by omega) _ _ _⟩
        | (simp [intOf]; omega)
    · have hke : k = N := by omega
      subst hke
      have hX := xM
      have HMV := Lib.hid (fun (w' : World) (h : Ext wr w') => FracV.any (vM.below h) (HFA.out k (Nat.le_refl _)) (by omega))
      clear vM hk hkl
      have x4 : Ext W4 wr := Y5.trans xM
      have x3 : Ext W3 wr := Y4.trans x4
      have hs5 := xM.size
      go_upto_region 14 with (fail)
      have X7 : Ext wr ((wr.alloc (.cells #[.int .u32 1] 53)).alloc (.cells #[.slice (some ⟨wr.heap.size, 0, none⟩) 1 1] 29)) := ext_alloc (ext_alloc (Below.refl _ _) _) _
      have HO7 : NatV ((wr.alloc (.cells #[.int .u32 1] 53)).alloc (.cells #[.slice (some ⟨wr.heap.size, 0, none⟩) 1 1] 29)) (.slice (some ⟨wr.heap.size, 0, none⟩) 1 1) 1 := (one_limb wr).alloc _
      have q7 : World.cell? ((wr.alloc (.cells #[.int .u32 1] 53)).alloc (.cells #[.slice (some ⟨wr.heap.size, 0, none⟩) 1 1] 29)) ⟨wr.heap.size + 1, 0, none⟩ = some (.slice (some ⟨wr.heap.size, 0, none⟩) 1 1) := by rw [show wr.heap.size + 1 = (wr.alloc (.cells #[.int .u32 1] 53)).heap.size from by simp]; simp [go_sem]
      generalize ((wr.alloc (.cells #[.int .u32 1] 53)).alloc (.cells #[.slice (some ⟨wr.heap.size, 0, none⟩) 1 1] 29)) = W7 at *
      have HO := Lib.hid HO7
      have q3 := HB3.out _ (x3.trans X7)
      have q4 := HB4.out _ (x4.trans X7)
      have X57 : Ext W5 W7 := hX.trans X7
      clear HO7 HFD
      have HL0 := Lib.hid (show (limbsOf 1).length ≤ 62 from by decide +kernel)
      go_wp2_with (go_at_call 22; (with_reducible refine (mul_f (L := 62) (M := 62) (AnyF.mk (b := false) (HN3.out _ X57).1 HO.out HL1.out HL0.out) (AnyF.mk (b := false) (HN3.out _ X57).2 HO.out (by have := HL2.out; omega) HL0.out) (by omega)).mono ?_); rintro _ w8 ⟨b8, A8, k8, c8, A8', k8', c8', rfl, h8, y8, n8, n8'⟩)
      clear n8 n8'
      go_upto_region 15 with (fail)
      have hG8 := FBox.new w8 (.bool b8) (.slice A8 k8 c8) (.slice A8' k8' c8') 31
      have Y8 : Ext W7 (w8.alloc (.cells #[.bool b8, .slice A8 k8 c8, .slice A8' k8' c8'] 31)) := ext_alloc y8 _
      have h8 := h8.below (ext_alloc (Below.refl _ _) (.cells #[.bool b8, .slice A8 k8 c8, .slice A8' k8' c8'] 31))
      have hsz8 : w8.heap.size < (w8.alloc (.cells #[.bool b8, .slice A8 k8 c8, .slice A8' k8' c8'] 31)).heap.size := by simp
      generalize w8.alloc (.cells #[.bool b8, .slice A8 k8 c8, .slice A8' k8' c8'] 31) = W8 at *
      generalize w8.heap.size = B8 at *
      have E8 : Ext wr W8 := X7.trans Y8
      have E58 : Ext W5 W8 := hX.trans E8
      have HFR := Lib.hid (FB.mul HFP.out (HFA.out k (Nat.le_refl _)) (by omega))
      have HFS := Lib.hid (FB.mul (frac_fb (b := false) HL1.out HL0.out (by omega)) (frac_fb (b := false) (show (limbsOf (chs DD j)).length ≤ 62 from by have := HL2.out; omega) HL0.out (by omega)) (by omega))
      have HR := Lib.hid (fun (w' : World) (h : Ext W8 w') => FracV.any (h8.below h) HFS.out (by omega))
      have HG8 := Lib.hid (fun (w' : World) (h : Ext W8 w') => hG8.below h)
      have HC := Lib.hid (fun (w' : World) (h : Ext W8 w') => (⟨(HG5.out _ (E58.trans h)).1, (HG5.out _ (E58.trans h)).2.1, (HG5.out _ (E58.trans h)).2.2.1, (HM.out _ (E8.trans h)).1, (HM.out _ (E8.trans h)).2.1, (HM.out _ (E8.trans h)).2.2.1, (HG8.out _ h).1, (HG8.out _ h).2.1, (HG8.out _ h).2.2.1⟩ : w'.cell? ⟨B5, 0, none⟩ = some (.bool b5) ∧ w'.cell? ⟨B5, 1, none⟩ = some (.slice A5 k5 c5) ∧ w'.cell? ⟨B5, 2, none⟩ = some (.slice A5' k5' c5') ∧ w'.cell? ⟨B6, 0, none⟩ = some (.bool cc) ∧ w'.cell? ⟨B6, 1, none⟩ = some (.slice MA mk ml) ∧ w'.cell? ⟨B6, 2, none⟩ = some (.slice MA' mk' ml') ∧ w'.cell? ⟨B8, 0, none⟩ = some (.bool b8) ∧ w'.cell? ⟨B8, 1, none⟩ = some (.slice A8 k8 c8) ∧ w'.cell? ⟨B8, 2, none⟩ = some (.slice A8' k8' c8')))
      obtain ⟨r50, r51, r52, r60, r61, r62, r80, r81, r82⟩ := HC.out _ (Below.refl _ _)
      have g0 : Ext W8 W8 := Below.refl _ _
      have f0 : Ext W8 W8 := Below.refl _ _
      clear h8 hG8 q3 q4 q7 m0 m1 m2
      go_region_held3 (fun w' => w'.cell? ⟨B5, 0, none⟩ = some (.bool b5) ∧ w'.cell? ⟨B5, 1, none⟩ = some (.slice A5 k5 c5) ∧ w'.cell? ⟨B5, 2, none⟩ = some (.slice A5' k5' c5') ∧ w'.cell? ⟨B6, 0, none⟩ = some (.bool cc) ∧ w'.cell? ⟨B6, 1, none⟩ = some (.slice MA mk ml) ∧ w'.cell? ⟨B6, 2, none⟩ = some (.slice MA' mk' ml') ∧ w'.cell? ⟨B8, 0, none⟩ = some (.bool b8) ∧ w'.cell? ⟨B8, 1, none⟩ = some (.slice A8 k8 c8) ∧ w'.cell? ⟨B8, 2, none⟩ = some (.slice A8' k8' c8')) (exact HC.out _ (by first | ((repeat first | assumption | exact Below.refl _ _ | refine ext_alloc ?_ _ | refine ext_drew ?_ | refine ext_set ?_ (by first | omega | (simp; done) | (simp; omega)) _); done) | fail))
        (first
          | (go_at_call 22; (with_reducible refine (mul_f (HP5.out _ (E58.trans (by first | ((repeat first | assumption | exact Below.refl _ _ | refine ext_alloc ?_ _ | refine ext_drew ?_ | refine ext_set ?_ (by first | omega | (simp; done) | (simp; omega)) _); done) | fail))) (HMV.out _ (E8.trans (by first | ((repeat first | assumption | exact Below.refl _ _ | refine ext_alloc ?_ _ | refine ext_drew ?_ | refine ext_set ?_ (by first | omega | (simp; done) | (simp; omega)) _); done) | fail))) (by omega)).mono ?_); rintro _ s2 ⟨bo, Ao, ko, lo, Bo, mo, no, rfl, ho, z2, _⟩; have g2 : Ext W8 s2 := Ext.trans (by first | ((repeat first | assumption | exact Below.refl _ _ | refine ext_alloc ?_ _ | refine ext_drew ?_ | refine ext_set ?_ (by first | omega | (simp; done) | (simp; omega)) _); done) | fail) z2; have HO2 := Lib.hid (fun (w' : World) (h : Ext s2 w') => FracV.any (ho.below h) HFR.out (by omega)))
          | (go_at_call 24; (with_reducible refine (cmp_e (HO2.out _ (by first | ((repeat first | assumption | exact Below.refl _ _ | refine ext_alloc ?_ _ | refine ext_drew ?_ | refine ext_set ?_ (by first | omega | (simp; done) | (simp; omega)) _); done) | fail)) (HR.out _ (by first | ((repeat first | assumption | exact Below.refl _ _ | refine ext_alloc ?_ _ | refine ext_drew ?_ | refine ext_set ?_ (by first | omega | (simp; done) | (simp; omega)) _); done) | fail)) (by omega) HV.out).mono ?_); rintro _ s3 ⟨rfl, z3⟩; have g3 : Ext W8 s3 := Ext.trans (by first | ((repeat first | assumption | exact Below.refl _ _ | refine ext_alloc ?_ _ | refine ext_drew ?_ | refine ext_set ?_ (by first | omega | (simp; done) | (simp; omega)) _); done) | fail) z3))
      all_goals go_wp2
      all_goals go_ret
      all_goals exact ⟨rfl, V0.trans (Y3.trans (x3.trans (E8.trans (by first | ((repeat first | assumption | exact Below.refl _ _ | refine ext_alloc ?_ _ | refine ext_drew ?_ | refine ext_set ?_ (by first | omega | (simp; done) | (simp; omega)) _); done) | fail))))⟩

end Go.Proofs.YtglphodaoafdmaaDoor
