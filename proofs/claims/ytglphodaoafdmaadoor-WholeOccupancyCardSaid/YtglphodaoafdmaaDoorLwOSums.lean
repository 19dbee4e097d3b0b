/- The walk of OccupancySums. -/
import Derived.Test.YtglphodaoafdmaaDoorOcW
import Derived.Test.YtglphodaoafdmaaDoorOcD
import Derived.Test.YtglphodaoafdmaaDoorFrlS
set_option linter.unusedVariables false
set_option linter.unusedSimpArgs false
set_option maxRecDepth 100000
namespace Go.Proofs.YtglphodaoafdmaaDoor
open Go.RowKit Num

theorem powQ_less {D n : Nat} (hD : 1 ≤ D) : powQ (one1 - ((1 : Int) : Rat) / ((D : Int) : Rat)) n = (((D - 1) ^ n : Nat) : Rat) / ((D ^ n : Nat) : Rat) := by
  rw [less_one hD, powQ_frac (by omega), frac_false]
theorem pchI_nat (n D d : Nat) : pchI n D (d : Int) = pch n D d := by
  unfold pchI
  rw [if_neg (by omega), Int.toNat_natCast]
theorem pchI_small {n D : Nat} (hn : n ≤ 30) (hD : D ≤ 60) (d : Int) : FB (pchI n D d) 130 := by
  unfold pchI
  split
  · have h := sumQ_fb (f := fun _ => 0) (L := 3) (n := 0) (by intro k hk; omega)
    exact h.mono (by omega)
  · rw [← pch_frac]
    by_cases hd : d.toNat ≤ 30
    · refine frac_fb ?_ ?_ (by decide)
      · have h3 := limbsOf_length_mul (chs D d.toNat) (stir n d.toNat * fact d.toNat)
        have := onto_small (n := n) (d := d.toNat) hn hd
        have := chs_small (d := d.toNat) hD
        omega
      · have := all_small hn hD
        omega
    · rw [occ_sets, occ_gt (Or.inl (by omega))]
      refine frac_fb (by rw [limbsOf_zero]; simp) ?_ (by decide)
      have := all_small hn hD
      omega
theorem sums_one {n D : Nat} (hD : 0 < D) : cmpQ (sumQ (fun d => pchI n D d) (n + 1)) (((1 : Int) : Rat) / ((1 : Int) : Rat)) = 0 := by
  rw [cmpQ_zero, sumQ_congr (g := pch n D) fun k _ => pchI_nat n D k, pch_sum hD (Nat.le_refl _)]
  decide +kernel
theorem sums_mean {n D : Nat} (hD : 0 < D) : cmpQ (sumQ (fun d => ((d : Int) : Rat) / ((1 : Int) : Rat) * pchI n D d) (n + 1)) (meanQ n D) = 0 := by
  rw [cmpQ_zero, sumQ_congr (g := fun k => ((k * occ n D k : Nat) : Rat) / ((D ^ n : Nat) : Rat)) fun k _ => by
    rw [pchI_nat, Rat.natCast_mul, Rat.intCast_natCast]
    unfold pch
    simp only [Rat.intCast_one, Rat.div_def]
    grind]
  rw [sumQ_div]
  unfold meanQ
  rw [powQ_less hD]
  have hm := congrArg (fun k : Nat => (k : Rat)) (occ_mean n D)
  simp only [Rat.natCast_add, Rat.natCast_mul] at hm
  have hp := pow_ne (n := n) hD
  rw [Rat.intCast_natCast]
  simp only [one1, Rat.intCast_one, Rat.div_def]
  generalize ((D ^ n : Nat) : Rat) = X at *
  generalize (((D - 1) ^ n : Nat) : Rat) = Y at *
  have h1 : X * X⁻¹ = 1 := Rat.mul_inv_cancel _ hp
  generalize X⁻¹ = X' at *
  generalize (D : Rat) = E at *
  generalize ((sumTo (fun d => d * occ n D d) (n + 1) : Nat) : Rat) = S at *
  grind
theorem sums_sign {n D d : Nat} (hD : 0 < D) : 0 ≤ sgnQ (pchI n D d) ∧ (D < d → sgnQ (pchI n D d) = 0) := by
  rw [pchI_nat, ← pch_frac, occ_sets]
  have hp := Nat.pow_pos (n := n) hD
  by_cases h : occ n D d = 0
  · rw [sgnQ_zero (.inl h)]
    omega
  · rw [sgnQ_frac h (by omega)]
    refine ⟨by simp, fun hd => absurd (occ_gt (Or.inr hd)) h⟩

set_option maxHeartbeats 8000000 in
theorem law_OSums {n D : Int} {w : World} (hn : -9223372036854775808 ≤ n ∧ n ≤ 9223372036854775807) (hD : -9223372036854775808 ≤ D ∧ D ≤ 9223372036854775807) (ht : Tab10 w) :
    Calls Tryd.prog 9 #[.int .i64 n, .int .i64 D] w (fun e w' => e = .returned (.bool true) ∧ Ext w w') := by
  go_enter Tryd.func9, Tryd.ntmps9
  have HT := Lib.hid (fun (w' : World) (h : Ext w w') => ht.ext h)
  go_wp2_with fail
  refine (oawake ht).mono ?_
  rintro e W0 ⟨rfl, V0⟩
  go_wp2_with fail
  refine (onumbers hn hD).mono ?_
  rintro e w0 ⟨N, k, hmk, rfl, rfl⟩
  have hN2 : N ≤ 30 := by omega
  obtain ⟨DD, hDD⟩ : ∃ DD : Nat, DD = k + 1 := ⟨_, rfl⟩
  have hDe : (k : Int) + 1 = (DD : Int) := by omega
  have hD1 : 1 ≤ DD := by omega
  have hD2 : DD ≤ 60 := by omega
  rw [hDe]
  clear hDD hDe hmk
  have hw1 : IntKind.i64.wrap ((N : Int) + 1) = (N : Int) + 1 := wrap_in (by omega)
  have HS := Lib.hid (less_small hD1 hD2)
  have HFB := Lib.hid (fun k (_ : k < N + 1) => pchI_small hN2 hD2 (k : Int))
  have HFI := Lib.hid (fun k (_ : k < N + 1) => (fb_i64 (n := (k : Int)) (d := 1) (by omega) (by omega) : FB (((k : Int) : Rat) / ((1 : Int) : Rat)) 3))
  have HFP := Lib.hid (fun k (hk : k < N + 1) => FB.mul (HFI.out k hk) (HFB.out k hk) (by omega))
  have HFM := Lib.hid (fun k (hk : k ≤ N + 1) => (sumQ_fb (f := fun d => ((d : Int) : Rat) / ((1 : Int) : Rat) * pchI N DD d) (L := 133) (n := k) fun j hj => HFP.out j (by omega)).mono (M := 200000) (by have : 134 * k ≤ 134 * 31 := Nat.mul_le_mul_left _ (by omega); omega))
  have HFS := Lib.hid ((sumQ_fb (f := fun d => pchI N DD d) (L := 130) (n := N + 1) fun j hj => HFB.out j (by omega)).mono (M := 200000) (by have : 131 * (N + 1) ≤ 131 * 31 := Nat.mul_le_mul_left _ (by omega); omega))
  have HDD := Lib.hid (show FB (((DD : Int) : Rat) / ((1 : Int) : Rat)) 3 from fb_i64 (by omega) (by omega))
  have HFN := Lib.hid (show FB (meanQ N DD) 38 from FB.mul HDD.out (FB.sub one1_fb (powQ_fb (n := N) HS.out.1 HS.out.2 (by omega)) (by omega)) (by omega))
  have HO := Lib.hid one1_fb
  have HV1 := Lib.hid (sums_one (n := N) (D := DD) (by omega))
  have HV2 := Lib.hid (sums_mean (n := N) (D := DD) (by omega))
  have HSG := Lib.hid (fun d => sums_sign (n := N) (D := DD) (d := d) (by omega))
  clear hD hn ht
  go_wp2_with fail
  refine (odist_ok (n := N) (D := DD) hN2 hD1 hD2).mono ?_
  rintro e w1 ⟨A1, c1, rfl, h1, y1, n1⟩
  rw [uptoQ_length] at h1 n1 ⊢
  clear n1
  go_wp2_with fail
  refine (omean_ok (n := N) (D := DD) hN2 hD1 hD2 (HT.out _ (V0.trans y1))).mono ?_
  rintro e w7 ⟨b7, A7, k7, c7, A7', k7', c7', rfl, h7, y7, n7, n7'⟩
  clear n7 n7'
  go_upto_region 6 with (fail)
  have hG7 := FBox.new w7 (.bool b7) (.slice A7 k7 c7) (.slice A7' k7' c7') 31
  have Y7 : Ext w1 (w7.alloc (.cells #[.bool b7, .slice A7 k7 c7, .slice A7' k7' c7'] 31)) := ext_alloc y7 _
  have h7 := h7.below (ext_alloc (Below.refl _ _) (.cells #[.bool b7, .slice A7 k7 c7, .slice A7' k7' c7'] 31))
  have hsz7 : w7.heap.size < (w7.alloc (.cells #[.bool b7, .slice A7 k7 c7, .slice A7' k7' c7'] 31)).heap.size := by simp
  generalize w7.alloc (.cells #[.bool b7, .slice A7 k7 c7, .slice A7' k7' c7'] 31) = W7 at *
  generalize w7.heap.size = B7 at *
  have HV := Lib.hid (fun (w' : World) (h : Ext W7 w') => h1.ext (Y7.trans h))
  have HG7 := Lib.hid (fun (w' : World) (h : Ext W7 w') => hG7.below h)
  have HP7 := Lib.hid (fun (w' : World) (h : Ext W7 w') => FracV.any (h7.below h) HFN.out (by omega))
  clear hG7 h7 y7 hsz7 h1
  go_wp2_with fail
  refine (fof_n (n := 0) (d := 1) (by omega) (by omega)).mono ?_
  rintro e w9 ⟨b9, A9, k9, c9, A9', k9', c9', rfl, h9, y9, n9, n9'⟩
  rw [zero_first] at h9
  have hlo : W7.heap.size ≤ w9.heap.size := y9.size
  go_wp2
  have hG9 := FBox.new w9 (.bool b9) (.slice A9 k9 c9) (.slice A9' k9' c9') 31
  have Y9 : Ext W7 (w9.alloc (.cells #[.bool b9, .slice A9 k9 c9, .slice A9' k9' c9'] 31)) := ext_alloc y9 _
  have h9 := h9.below (ext_alloc (Below.refl _ _) (.cells #[.bool b9, .slice A9 k9 c9, .slice A9' k9' c9'] 31))
  have hsz9 : w9.heap.size < (w9.alloc (.cells #[.bool b9, .slice A9 k9 c9, .slice A9' k9' c9'] 31)).heap.size := by simp
  generalize w9.alloc (.cells #[.bool b9, .slice A9 k9 c9, .slice A9' k9' c9'] 31) = W9 at *
  generalize w9.heap.size = B9 at *
  go_loopw [10] (fun iv wr => ∃ k : Nat, k ≤ N + 1 ∧ iv = .int .i64 k ∧ FIs W7 wr B9 (sumQ (fun d => ((d : Int) : Rat) / ((1 : Int) : Rat) * pchI N DD d) k)) (fun iv _ => N + 1 - (intOf iv).toNat)
  case atStart => exact ⟨0, Nat.zero_le _, rfl, b9, A9, k9, c9, A9', k9', c9', hG9, h9, Y9, n9, n9'⟩
  case round =>
    clear hG9 h9 Y9 n9 n9' y9
    obtain ⟨k, hk, rfl, cc, MA, mk, ml, MA', mk', ml', hM, vM, xM, nM, nM'⟩ := hrel
    have HM := Lib.hid (fun (w' : World) (h : Ext wr w') => hM.below h)
    have hMl := hM.lt
    obtain ⟨m0, m1, m2, gm0, gm1, gm2⟩ := hM
    have hX := xM
    by_cases hkl : k < N + 1
    · have HMV := Lib.hid (fun (w' : World) (h : Ext wr w') => FracV.any (vM.below h) (HFM.out k (by omega)) (by omega))
      clear vM
      obtain ⟨b, o, neg, A3, k3, c3, A4, k4, c4, rfl, hb, e0, e1, e2, fv, _, _⟩ := (HV.out _ xM).at_ (uptoQ_at hkl)
      have hi1 : (0 : Int) ≤ (k : Int) := by omega
      have hi2 : (k : Int) < (N : Int) + 1 := by omega
      have HFV := Lib.hid (fun (w' : World) (h : Ext wr w') => FracV.any (fv.below h) (HFB.out k hkl) (by omega))
      have HC := Lib.hid (fun (w' : World) (h : Ext wr w') => (⟨(h.cell (p := ⟨b, o + k * 3, none⟩) hb).trans e0, (h.cell (p := ⟨b, o + k * 3 + 1, none⟩) hb).trans e1, (h.cell (p := ⟨b, o + k * 3 + 2, none⟩) hb).trans e2⟩ : w'.cell? ⟨b, o + k * 3, none⟩ = some (.bool neg) ∧ w'.cell? ⟨b, o + k * 3 + 1, none⟩ = some (.slice A3 k3 c3) ∧ w'.cell? ⟨b, o + k * 3 + 2, none⟩ = some (.slice A4 k4 c4)))
      clear fv
      obtain ⟨sg, hsg⟩ : ∃ sg, sgnQ (pchI N DD k) = sg := ⟨_, rfl⟩
      have hs1 := (HSG.out k).1
      have hs2 := (HSG.out k).2
      rw [hsg] at hs1 hs2
      have HZ := Lib.hid hsg
      clear hsg
      have hsn : ¬ sg < 0 := by omega
      have hd1 : decide (sg < 0) = false := by simpa using hs1
      have HKD : Hid (¬ (DD < k) ∨ sg = 0) := Lib.hid (by
        by_cases h : DD < k
        · exact .inr (hs2 h)
        · exact .inl h)
      clear hs2 hs1
      by_cases hkd : DD < k
      · obtain rfl : sg = 0 := by
          rcases HKD.out with h | h
          · exact absurd hkd h
          · exact h
        have hki : (DD : Int) < (k : Int) := by omega
        have f0 : Ext wr wr := Below.refl _ _
        go_upto_region 14 with (first
          | (go_at_call 42; (with_reducible refine (sign_e (HFV.out _ (by first | ((repeat first | assumption | exact Below.refl _ _ | refine ext_alloc ?_ _ | refine ext_drew ?_ | refine ext_set ?_ (by first | omega | (simp; done) | (simp; omega)) _); done) | fail)) HZ.out).mono ?_); rintro _ s1 ⟨rfl, z1⟩; have f1 : Ext wr s1 := Ext.trans (by first | ((repeat first | assumption | exact Below.refl _ _ | refine ext_alloc ?_ _ | refine ext_drew ?_ | refine ext_set ?_ (by first | omega | (simp; done) | (simp; omega)) _); done) | fail) z1; obtain ⟨e0, e1, e2⟩ := HC.out _ f1)
          | (go_at_call 42; (with_reducible refine (sign_e (HFV.out _ f1) HZ.out).mono ?_); rintro _ s2 ⟨rfl, z2⟩; have f2 : Ext wr s2 := Ext.trans f1 z2; obtain ⟨e0, e1, e2⟩ := HC.out _ f2))
        obtain ⟨m0, m1, m2, gm0, gm1, gm2⟩ := HM.out _ f1
        have hsF := f1.size
        have HFF := f1
        go_region_law (first
          | (go_simp; go_at_call 23; (with_reducible refine (fof_n (n := (k : Int)) (d := 1) (by omega) (by omega)).mono ?_); rintro _ s4 ⟨b4, A4', k4', c4', B4, l4, d4, rfl, h4, z4, _⟩; have f4 : Ext wr s4 := Ext.trans (by first | ((repeat first | assumption | exact Below.refl _ _ | refine ext_alloc ?_ _ | refine ext_drew ?_ | refine ext_set ?_ (by first | omega | (simp; done) | (simp; omega)) _); done) | fail) z4; obtain ⟨m0, m1, m2, gm0, gm1, gm2⟩ := HM.out _ f4; obtain ⟨e0, e1, e2⟩ := HC.out _ f4; have HH4 := Lib.hid (fun (w' : World) (h : Ext s4 w') => FracV.any (h4.below h) (HFI.out k hkl) (by omega)))
          | (go_simp; go_at_call 22; (with_reducible refine (mul_f (HH4.out _ (by first | ((repeat first | assumption | exact Below.refl _ _ | refine ext_alloc ?_ _ | refine ext_drew ?_ | refine ext_set ?_ (by first | omega | (simp; done) | (simp; omega)) _); done) | fail)) (HFV.out _ (by first | ((repeat first | assumption | exact Below.refl _ _ | refine ext_alloc ?_ _ | refine ext_drew ?_ | refine ext_set ?_ (by first | omega | (simp; done) | (simp; omega)) _); done) | fail)) (by omega)).mono ?_); rintro _ s5 ⟨b5, A5, k5, c5, B5, l5, d5, rfl, h5, z5, _⟩; have f5 : Ext wr s5 := Ext.trans (by first | ((repeat first | assumption | exact Below.refl _ _ | refine ext_alloc ?_ _ | refine ext_drew ?_ | refine ext_set ?_ (by first | omega | (simp; done) | (simp; omega)) _); done) | fail) z5; obtain ⟨m0, m1, m2, gm0, gm1, gm2⟩ := HM.out _ f5; obtain ⟨e0, e1, e2⟩ := HC.out _ f5; have HH5 := Lib.hid (fun (w' : World) (h : Ext s5 w') => FracV.any (h5.below h) (HFP.out k hkl) (by omega)))
          | (go_simp; go_at_call 25; (with_reducible refine (add_f (HMV.out _ (by first | ((repeat first | assumption | exact Below.refl _ _ | refine ext_alloc ?_ _ | refine ext_drew ?_ | refine ext_set ?_ (by first | omega | (simp; done) | (simp; omega)) _); done) | fail)) (HH5.out _ (by first | ((repeat first | assumption | exact Below.refl _ _ | refine ext_alloc ?_ _ | refine ext_drew ?_ | refine ext_set ?_ (by first | omega | (simp; done) | (simp; omega)) _); done) | fail)) (HFM.out k (by omega)) (HFP.out k hkl) (by omega)).mono ?_); rintro _ s6 ⟨b6, A6, k6, c6, B6, l6, d6, rfl, h6, z6, n6, m6⟩; have f6 : Ext wr s6 := Ext.trans (by first | ((repeat first | assumption | exact Below.refl _ _ | refine ext_alloc ?_ _ | refine ext_drew ?_ | refine ext_set ?_ (by first | omega | (simp; done) | (simp; omega)) _); done) | fail) z6; have hs56 := f5.size; obtain ⟨m0, m1, m2, gm0, gm1, gm2⟩ := HM.out _ f6; obtain ⟨e0, e1, e2⟩ := HC.out _ f6))
        all_goals go_wp2
        all_goals go_roundw
        all_goals first
          | exact ⟨k + 1, by omega, by go_num, b6, A6, k6, c6, B6, l6, d6, (HM.out _ f6).put _ _ _, FracV.put h6 n6 m6 (by omega) _ _ _, ext_put (hX.trans f6) (by omega) _ _ _, n6.mono (by have := hX.size; omega), m6.mono (by have := hX.size; omega)⟩
          | (simp [intOf]; omega)
      · have hki : ¬ ((DD : Int) < (k : Int)) := by omega
        have f0 : Ext wr wr := Below.refl _ _
        go_upto_region 14 with (first
          | (go_at_call 42; (with_reducible refine (sign_e (HFV.out _ (by first | ((repeat first | assumption | exact Below.refl _ _ | refine ext_alloc ?_ _ | refine ext_drew ?_ | refine ext_set ?_ (by first | omega | (simp; done) | (simp; omega)) _); done) | fail)) HZ.out).mono ?_); rintro _ s1 ⟨rfl, z1⟩; have f1 : Ext wr s1 := Ext.trans (by first | ((repeat first | assumption | exact Below.refl _ _ | refine ext_alloc ?_ _ | refine ext_drew ?_ | refine ext_set ?_ (by first | omega | (simp; done) | (simp; omega)) _); done) | fail) z1; obtain ⟨e0, e1, e2⟩ := HC.out _ f1))
        obtain ⟨m0, m1, m2, gm0, gm1, gm2⟩ := HM.out _ f1
        have hsF := f1.size
        have HFF := f1
        go_region_law (first
          | (go_simp; go_at_call 23; (with_reducible refine (fof_n (n := (k : Int)) (d := 1) (by omega) (by omega)).mono ?_); rintro _ s4 ⟨b4, A4', k4', c4', B4, l4, d4, rfl, h4, z4, _⟩; have f4 : Ext wr s4 := Ext.trans (by first | ((repeat first | assumption | exact Below.refl _ _ | refine ext_alloc ?_ _ | refine ext_drew ?_ | refine ext_set ?_ (by first | omega | (simp; done) | (simp; omega)) _); done) | fail) z4; obtain ⟨m0, m1, m2, gm0, gm1, gm2⟩ := HM.out _ f4; obtain ⟨e0, e1, e2⟩ := HC.out _ f4; have HH4 := Lib.hid (fun (w' : World) (h : Ext s4 w') => FracV.any (h4.below h) (HFI.out k hkl) (by omega)))
          | (go_simp; go_at_call 22; (with_reducible refine (mul_f (HH4.out _ (by first | ((repeat first | assumption | exact Below.refl _ _ | refine ext_alloc ?_ _ | refine ext_drew ?_ | refine ext_set ?_ (by first | omega | (simp; done) | (simp; omega)) _); done) | fail)) (HFV.out _ (by first | ((repeat first | assumption | exact Below.refl _ _ | refine ext_alloc ?_ _ | refine ext_drew ?_ | refine ext_set ?_ (by first | omega | (simp; done) | (simp; omega)) _); done) | fail)) (by omega)).mono ?_); rintro _ s5 ⟨b5, A5, k5, c5, B5, l5, d5, rfl, h5, z5, _⟩; have f5 : Ext wr s5 := Ext.trans (by first | ((repeat first | assumption | exact Below.refl _ _ | refine ext_alloc ?_ _ | refine ext_drew ?_ | refine ext_set ?_ (by first | omega | (simp; done) | (simp; omega)) _); done) | fail) z5; obtain ⟨m0, m1, m2, gm0, gm1, gm2⟩ := HM.out _ f5; obtain ⟨e0, e1, e2⟩ := HC.out _ f5; have HH5 := Lib.hid (fun (w' : World) (h : Ext s5 w') => FracV.any (h5.below h) (HFP.out k hkl) (by omega)))
          | (go_simp; go_at_call 25; (with_reducible refine (add_f (HMV.out _ (by first | ((repeat first | assumption | exact Below.refl _ _ | refine ext_alloc ?_ _ | refine ext_drew ?_ | refine ext_set ?_ (by first | omega | (simp; done) | (simp; omega)) _); done) | fail)) (HH5.out _ (by first | ((repeat first | assumption | exact Below.refl _ _ | refine ext_alloc ?_ _ | refine ext_drew ?_ | refine ext_set ?_ (by first | omega | (simp; done) | (simp; omega)) _); done) | fail)) (HFM.out k (by omega)) (HFP.out k hkl) (by omega)).mono ?_); rintro _ s6 ⟨b6, A6, k6, c6, B6, l6, d6, rfl, h6, z6, n6, m6⟩; have f6 : Ext wr s6 := Ext.trans (by first | ((repeat first | assumption | exact Below.refl _ _ | refine ext_alloc ?_ _ | refine ext_drew ?_ | refine ext_set ?_ (by first | omega | (simp; done) | (simp; omega)) _); done) | fail) z6; have hs56 := f5.size; obtain ⟨m0, m1, m2, gm0, gm1, gm2⟩ := HM.out _ f6; obtain ⟨e0, e1, e2⟩ := HC.out _ f6))
        all_goals go_wp2
        all_goals go_roundw
        all_goals first
          | exact ⟨k + 1, by omega, by go_num, b6, A6, k6, c6, B6, l6, d6, (HM.out _ f6).put _ _ _, FracV.put h6 n6 m6 (by omega) _ _ _, ext_put (hX.trans f6) (by omega) _ _ _, n6.mono (by have := hX.size; omega), m6.mono (by have := hX.size; omega)⟩
          | (simp [intOf]; omega)
    · obtain rfl : k = N + 1 := by omega
      have HMV := Lib.hid (fun (w' : World) (h : Ext wr w') => FracV.any (vM.below h) (HFM.out (N + 1) (by omega)) (by omega))
      clear vM hk hkl
      have hb0 : ¬ ((N : Int) + 1 < (N : Int) + 1) := by omega
      obtain ⟨r70, r71, r72, _, _, _⟩ := HG7.out _ xM
      have f0 : Ext wr wr := Below.refl _ _
      go_wp2_with (first
        | (go_at_call 27; (with_reducible refine (fsum_n (HV.out _ xM) HFB.out (by omega) (by omega)).mono ?_); rintro _ s1 ⟨b1, A1', k1, c1', B1, l1, d1, rfl, h1, z1, _⟩; have f1 : Ext wr s1 := z1; obtain ⟨m0, m1, m2, gm0, gm1, gm2⟩ := HM.out _ f1; obtain ⟨r70, r71, r72, _, _, _⟩ := HG7.out _ (xM.trans f1); have HH1 := Lib.hid (fun (w' : World) (h : Ext s1 w') => FracV.any (h1.below h) HFS.out (by omega)))
        | (go_at_call 23; (with_reducible refine (fof_n (n := 1) (d := 1) (by omega) (by omega)).mono ?_); rintro _ s2 ⟨b2, A2, k2, c2, B2, l2, d2, rfl, h2, z2, _⟩; have f2 : Ext wr s2 := f1.trans z2; obtain ⟨m0, m1, m2, gm0, gm1, gm2⟩ := HM.out _ f2; obtain ⟨r70, r71, r72, _, _, _⟩ := HG7.out _ (xM.trans f2); have HH2 := Lib.hid (fun (w' : World) (h : Ext s2 w') => FracV.any (h2.below h) HO.out (by omega)))
        | (go_at_call 24; (with_reducible refine (cmp_e (HH1.out _ (by first | ((repeat first | assumption | exact Below.refl _ _ | refine ext_alloc ?_ _ | refine ext_drew ?_ | refine ext_set ?_ (by first | omega | (simp; done) | (simp; omega)) _); done) | fail)) (HH2.out _ (by first | ((repeat first | assumption | exact Below.refl _ _ | refine ext_alloc ?_ _ | refine ext_drew ?_ | refine ext_set ?_ (by first | omega | (simp; done) | (simp; omega)) _); done) | fail)) (by omega) HV1.out).mono ?_); rintro _ s3 ⟨rfl, z3⟩; have f3 : Ext wr s3 := f2.trans z3; obtain ⟨m0, m1, m2, gm0, gm1, gm2⟩ := HM.out _ f3; obtain ⟨r70, r71, r72, _, _, _⟩ := HG7.out _ (xM.trans f3))
        | (go_at_call 24; (with_reducible refine (cmp_e (HMV.out _ f3) (HP7.out _ (xM.trans f3)) (by omega) HV2.out).mono ?_); rintro _ s4 ⟨rfl, z4⟩; have f4 : Ext wr s4 := f3.trans z4))
      go_ret
      exact ⟨rfl, V0.trans (y1.trans (Y7.trans (xM.trans f4)))⟩

end Go.Proofs.YtglphodaoafdmaaDoor
