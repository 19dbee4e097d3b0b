/- The walk of OccupancySteps. -/
import Derived.Test.YtglphodaoafdmaaDoorOcW
set_option linter.unusedVariables false
set_option linter.unusedSimpArgs false
set_option maxRecDepth 100000
namespace Go.Proofs.YtglphodaoafdmaaDoor
open Go.RowKit Num

theorem steps_val {n D : Nat} (hD : 0 < D) (d : Int) : pchI (n + 1) D d = (d : Rat) / ((D : Int) : Rat) * pchI n D d + (((D : Int) - d + 1 : Int) : Rat) / ((D : Int) : Rat) * pchI n D (d - 1) := by
  by_cases h1 : d < 0
  · unfold pchI
    rw [if_pos h1, if_pos h1, if_pos (show d - 1 < 0 from by omega), Rat.mul_zero, Rat.mul_zero, Rat.add_zero]
  · obtain ⟨k, rfl⟩ : ∃ k : Nat, d = k := ⟨d.toNat, by omega⟩
    rcases Nat.eq_zero_or_pos k with h0 | h0
    · subst h0
      have e : pch (n + 1) D 0 = 0 := by unfold pch; rw [occ_step_zero, Rat.div_def]; exact Rat.zero_mul _
      unfold pchI
      rw [if_neg h1, if_neg h1, if_pos (by omega), Rat.mul_zero, Rat.add_zero]
      show pch (n + 1) D 0 = _
      rw [e]
      simp only [Int.natCast_zero, Rat.intCast_zero, Rat.div_def, Rat.zero_mul]
    · obtain ⟨j, rfl⟩ : ∃ j, k = j + 1 := ⟨k - 1, by omega⟩
      unfold pchI
      rw [if_neg h1, if_neg h1, if_neg (by omega), Int.toNat_natCast, show (((j + 1 : Nat) : Int) - 1).toNat = j from by omega, pch_step hD]
      rw [show (D : Int) - ((j + 1 : Nat) : Int) + 1 = (D : Int) - (j : Int) from by omega]
      by_cases hj : j ≤ D
      · rw [show (D : Int) - (j : Int) = ((D - j : Nat) : Int) from by omega]
        simp only [Rat.intCast_natCast]
      · rw [pch_gt (n := n) (d := j) (.inr (by omega)), Rat.mul_zero, Rat.mul_zero]
        simp only [Rat.intCast_natCast]
theorem pchI_fb {n D : Nat} (hn : n ≤ 30) (hD : D ≤ 60) (d : Int) : FB (pchI n D d) 130 := by
  unfold pchI
  split
  · exact fb_zero.mono (by omega)
  · by_cases h : d.toNat ≤ 30
    · rw [← pch_frac]
      refine frac_fb ?_ ?_ (by decide)
      · have h1 := chs_small (d := d.toNat) hD
        have h2 := onto_small (d := d.toNat) hn h
        have h3 := limbsOf_length_mul (chs D d.toNat) (stir n d.toNat * fact d.toNat)
        omega
      · have := all_small hn hD
        omega
    · rw [pch_gt (.inl (by omega))]
      exact fb_zero.mono (by omega)

set_option maxHeartbeats 8000000 in
theorem law_OSteps {n D d : Int} {w : World} (hn : -9223372036854775808 ≤ n ∧ n ≤ 9223372036854775807) (hD : -9223372036854775808 ≤ D ∧ D ≤ 9223372036854775807) (hd : -9223372036854775808 ≤ d ∧ d ≤ 9223372036854775807) (ht : Tab10 w) :
    Calls Tryd.prog 5 #[.int .i64 n, .int .i64 D, .int .i64 d] w (fun e w' => e = .returned (.bool true) ∧ Ext w w') := by
  go_enter Tryd.func5, Tryd.ntmps5
  go_wp2_with fail
  refine (oawake ht).mono ?_
  rintro e W0 ⟨rfl, V0⟩
  go_wp2_with fail
  refine (onumbers hn hD).mono ?_
  rintro e w1 ⟨m, k, hmk, rfl, rfl⟩
  obtain ⟨N, hN⟩ : ∃ N : Nat, N = min m 29 := ⟨_, rfl⟩
  have hmin : min (m : Int) 29 = (N : Int) := by omega
  have hN2 : N ≤ 29 := by omega
  have hk1 := hmk.2
  obtain ⟨DD, hDD⟩ : ∃ DD : Nat, DD = k + 1 := ⟨_, rfl⟩
  have hDe : (k : Int) + 1 = (DD : Int) := by omega
  have hD1 : 1 ≤ DD := by omega
  have hD2 : DD ≤ 60 := by omega
  rw [hDe]
  clear hN hDD hDe hk1 hmk
  go_wp2_with fail
  refine (mod_i (b := 33) (by omega) (by omega) hd).mono ?_
  rintro e w2 ⟨j, hj, rfl, rfl⟩
  obtain ⟨d', hd'⟩ : ∃ d' : Int, d' = (j : Int) - 1 := ⟨_, rfl⟩
  have hd1 : IntKind.i64.wrap ((j : Int) - 1) = d' := by rw [wrap_in (by omega)]; omega
  have hd2 : -1 ≤ d' ∧ d' ≤ 32 := by omega
  have hn1 : IntKind.i64.wrap ((N : Int) + 1) = ((N + 1 : Nat) : Int) := by rw [wrap_in (by omega)]; omega
  clear hd' hj hmin hd
  go_wp2_with fail
  have hD0 : 0 < DD := by omega
  have HV := Lib.hid (steps_val (n := N) hD0 d')
  have HC1 := Lib.hid (fun w => (show Calls Tryd.prog 30 #[.int .i64 ((N : Int) + 1), .int .i64 DD, .int .i64 d'] w (GivesFE w (pchI (N + 1) DD d')) from by
    have h := ochance_ok (n := N + 1) (D := DD) (d := d') (w := w) (by omega) hD1 hD2
    rw [show ((N + 1 : Nat) : Int) = (N : Int) + 1 from by omega] at h
    exact h))
  have HFB1 := Lib.hid (pchI_fb (n := N + 1) (by omega) hD2 d')
  have HFB2 := Lib.hid (pchI_fb (n := N) (by omega) hD2 d')
  have HFB3 := Lib.hid (pchI_fb (n := N) (by omega) hD2 (d' - 1))
  have HO1 := Lib.hid (show (-9223372036854775808 ≤ d' ∧ d' ≤ 9223372036854775807) ∧ (-9223372036854775808 ≤ (DD : Int) ∧ (DD : Int) ≤ 9223372036854775807) from by omega)
  have HO2 := Lib.hid (show (-9223372036854775808 ≤ (DD : Int) - d' + 1 ∧ (DD : Int) - d' + 1 ≤ 9223372036854775807) from by omega)
  have HF1 := Lib.hid (fb_i64 HO1.out.1 HO1.out.2)
  have HF2 := Lib.hid (fb_i64 HO2.out HO1.out.2)
  have HF4 := Lib.hid (FB.mul HF1.out HFB2.out (by omega))
  have HF5 := Lib.hid (FB.mul HF2.out HFB3.out (by omega))
  have HF6 := Lib.hid (FB.add HF4.out HF5.out (by omega))
  have hw3 : IntKind.i64.wrap (d' - 1) = d' - 1 := wrap_in (by omega)
  have hw4 : IntKind.i64.wrap ((DD : Int) - d') = (DD : Int) - d' := wrap_in (by omega)
  have hw5 : IntKind.i64.wrap ((DD : Int) - d' + 1) = (DD : Int) - d' + 1 := wrap_in (by omega)
  refine (HC1.out _).mono ?_
  rintro e w1 ⟨b1, A1, k1, c1, A1', k1', c1', rfl, h1, y1, n1, n1'⟩
  clear n1 n1'
  go_upto_region 7 with (fail)
  have hG1 := FBox.new w1 (.bool b1) (.slice A1 k1 c1) (.slice A1' k1' c1') 31
  have Y1 : Ext w2 (w1.alloc (.cells #[.bool b1, .slice A1 k1 c1, .slice A1' k1' c1'] 31)) := ext_alloc y1 _
  have h1 := h1.below (ext_alloc (Below.refl _ _) (.cells #[.bool b1, .slice A1 k1 c1, .slice A1' k1' c1'] 31))
  have hsz1 : w1.heap.size < (w1.alloc (.cells #[.bool b1, .slice A1 k1 c1, .slice A1' k1' c1'] 31)).heap.size := by simp
  generalize w1.alloc (.cells #[.bool b1, .slice A1 k1 c1, .slice A1' k1' c1'] 31) = W1 at *
  generalize w1.heap.size = B1 at *
  have HG1 := Lib.hid (fun (w' : World) (h : Ext W1 w') => hG1.below h)
  have HP1 := Lib.hid (fun (w' : World) (h : Ext W1 w') => FracV.any (h1.below h) (HFB1.out) (by omega))
  clear hG1 h1 y1 hsz1
  go_wp2_with fail
  refine (ochance_ok (n := N) (D := DD) (d := d') (by omega) hD1 hD2).mono ?_
  rintro e w2 ⟨b2, A2, k2, c2, A2', k2', c2', rfl, h2, y2, n2, n2'⟩
  clear n2 n2'
  go_upto_region 8 with (fail)
  have hG2 := FBox.new w2 (.bool b2) (.slice A2 k2 c2) (.slice A2' k2' c2') 31
  have Y2 : Ext W1 (w2.alloc (.cells #[.bool b2, .slice A2 k2 c2, .slice A2' k2' c2'] 31)) := ext_alloc y2 _
  have h2 := h2.below (ext_alloc (Below.refl _ _) (.cells #[.bool b2, .slice A2 k2 c2, .slice A2' k2' c2'] 31))
  have hsz2 : w2.heap.size < (w2.alloc (.cells #[.bool b2, .slice A2 k2 c2, .slice A2' k2' c2'] 31)).heap.size := by simp
  generalize w2.alloc (.cells #[.bool b2, .slice A2 k2 c2, .slice A2' k2' c2'] 31) = W2 at *
  generalize w2.heap.size = B2 at *
  have HG2 := Lib.hid (fun (w' : World) (h : Ext W2 w') => hG2.below h)
  have HP2 := Lib.hid (fun (w' : World) (h : Ext W2 w') => FracV.any (h2.below h) (HFB2.out) (by omega))
  clear hG2 h2 y2 hsz2
  go_wp2_with fail
  refine (ochance_ok (n := N) (D := DD) (d := d' - 1) (by omega) hD1 hD2).mono ?_
  rintro e w3 ⟨b3, A3, k3, c3, A3', k3', c3', rfl, h3, y3, n3, n3'⟩
  clear n3 n3'
  go_upto_region 9 with (fail)
  have hG3 := FBox.new w3 (.bool b3) (.slice A3 k3 c3) (.slice A3' k3' c3') 31
  have Y3 : Ext W2 (w3.alloc (.cells #[.bool b3, .slice A3 k3 c3, .slice A3' k3' c3'] 31)) := ext_alloc y3 _
  have h3 := h3.below (ext_alloc (Below.refl _ _) (.cells #[.bool b3, .slice A3 k3 c3, .slice A3' k3' c3'] 31))
  have hsz3 : w3.heap.size < (w3.alloc (.cells #[.bool b3, .slice A3 k3 c3, .slice A3' k3' c3'] 31)).heap.size := by simp
  generalize w3.alloc (.cells #[.bool b3, .slice A3 k3 c3, .slice A3' k3' c3'] 31) = W3 at *
  generalize w3.heap.size = B3 at *
  have HG3 := Lib.hid (fun (w' : World) (h : Ext W3 w') => hG3.below h)
  have HP3 := Lib.hid (fun (w' : World) (h : Ext W3 w') => FracV.any (h3.below h) (HFB3.out) (by omega))
  clear hG3 h3 y3 hsz3
  have E2 : Ext W2 W3 := Y3
  have E1 : Ext W1 W3 := Y2.trans E2
  obtain ⟨r20, r21, r22, _, _, _⟩ := HG2.out _ E2
  obtain ⟨r30, r31, r32, _, _, _⟩ := HG3.out _ (Below.refl _ _)
  have f0 : Ext W3 W3 := Below.refl _ _
  have HC := Lib.hid (fun (w' : World) (h : Ext W3 w') => (⟨(HG2.out _ (E2.trans h)).1, (HG2.out _ (E2.trans h)).2.1, (HG2.out _ (E2.trans h)).2.2.1, (HG3.out _ h).1, (HG3.out _ h).2.1, (HG3.out _ h).2.2.1⟩ : w'.cell? ⟨B2, 0, none⟩ = some (.bool b2) ∧ w'.cell? ⟨B2, 1, none⟩ = some (.slice A2 k2 c2) ∧ w'.cell? ⟨B2, 2, none⟩ = some (.slice A2' k2' c2') ∧ w'.cell? ⟨B3, 0, none⟩ = some (.bool b3) ∧ w'.cell? ⟨B3, 1, none⟩ = some (.slice A3 k3 c3) ∧ w'.cell? ⟨B3, 2, none⟩ = some (.slice A3' k3' c3')))
  go_cut [13] (fun mv wx => FBoxAt W3 wx mv ((d' : Rat) / ((DD : Int) : Rat) * pchI N DD d' + (((DD : Int) - d' + 1 : Int) : Rat) / ((DD : Int) : Rat) * pchI N DD (d' - 1)))
  case first =>
    go_region_held3 (fun w' => w'.cell? ⟨B2, 0, none⟩ = some (.bool b2) ∧ w'.cell? ⟨B2, 1, none⟩ = some (.slice A2 k2 c2) ∧ w'.cell? ⟨B2, 2, none⟩ = some (.slice A2' k2' c2') ∧ w'.cell? ⟨B3, 0, none⟩ = some (.bool b3) ∧ w'.cell? ⟨B3, 1, none⟩ = some (.slice A3 k3 c3) ∧ w'.cell? ⟨B3, 2, none⟩ = some (.slice A3' k3' c3')) (exact HC.out _ (by first | ((repeat first | assumption | exact Below.refl _ _ | refine ext_alloc ?_ _ | refine ext_drew ?_ | refine ext_set ?_ (by first | omega | (simp; done) | (simp; omega)) _); done) | fail))
      (first
        | (go_at_call 23; (with_reducible refine (fof_n HO1.out.1 HO1.out.2).mono ?_); rintro _ s1 ⟨b4, A4, k4, c4, B4, l4, d4, rfl, h4, z1, _⟩; have f1 : Ext W3 s1 := Ext.trans (by first | ((repeat first | assumption | exact Below.refl _ _ | refine ext_alloc ?_ _ | refine ext_drew ?_ | refine ext_set ?_ (by first | omega | (simp; done) | (simp; omega)) _); done) | fail) z1; have HH1 := Lib.hid (fun (w' : World) (h : Ext s1 w') => FracV.any (L := 3) (h4.below h) HF1.out (by omega)); have yy1 : W3.heap.size ≤ s1.heap.size := f1.size; (try (have dF := FBox.below dF z1)); (try (have dF := FBox.below (FBox.below dF (ext_drew (Below.refl _ _))) z1)); (try (have dF := FBox.below (FBox.new _ (.bool false) (.slice none 0 0) (.slice none 0 0) _) z1)); (try (have dF := FBox.below (FBox.below (FBox.new _ (.bool false) (.slice none 0 0) (.slice none 0 0) _) (ext_drew (Below.refl _ _))) z1)); (try (have dL := FBox.lt dF)); (try (have dG := dF; obtain ⟨e0, e1, e2, g0, g1, g2⟩ := dG)))
        | (go_at_call 23; (with_reducible refine (fof_n HO2.out HO1.out.2).mono ?_); rintro _ s2 ⟨b5, A5, k5, c5, B5, l5, d5, rfl, h5, z2, _⟩; have f2 : Ext W3 s2 := Ext.trans (by first | ((repeat first | assumption | exact Below.refl _ _ | refine ext_alloc ?_ _ | refine ext_drew ?_ | refine ext_set ?_ (by first | omega | (simp; done) | (simp; omega)) _); done) | fail) z2; have HH2 := Lib.hid (fun (w' : World) (h : Ext s2 w') => FracV.any (L := 3) (h5.below h) HF2.out (by omega)); have yy2 : W3.heap.size ≤ s2.heap.size := f2.size; (try (have dF := FBox.below dF z2)); (try (have dF := FBox.below (FBox.below dF (ext_drew (Below.refl _ _))) z2)); (try (have dF := FBox.below (FBox.new _ (.bool false) (.slice none 0 0) (.slice none 0 0) _) z2)); (try (have dF := FBox.below (FBox.below (FBox.new _ (.bool false) (.slice none 0 0) (.slice none 0 0) _) (ext_drew (Below.refl _ _))) z2)); (try (have dL := FBox.lt dF)); (try (have dG := dF; obtain ⟨e0, e1, e2, g0, g1, g2⟩ := dG)))
        | (go_at_call 22; (with_reducible refine (mul_f (HH1.out _ (by first | ((repeat first | assumption | exact Below.refl _ _ | refine ext_alloc ?_ _ | refine ext_drew ?_ | refine ext_set ?_ (by first | omega | (simp; done) | (simp; omega)) _ | refine Ext.trans ?_ z6 | refine Ext.trans ?_ z5 | refine Ext.trans ?_ z4 | refine Ext.trans ?_ z3 | refine Ext.trans ?_ z2 | refine Ext.trans ?_ z1); done) | fail)) (HP2.out _ (E2.trans (by first | ((repeat first | assumption | exact Below.refl _ _ | refine ext_alloc ?_ _ | refine ext_drew ?_ | refine ext_set ?_ (by first | omega | (simp; done) | (simp; omega)) _); done) | fail))) (by omega)).mono ?_); rintro _ s3 ⟨b6, A6, k6, c6, B6, l6, d6, rfl, h6, z3, _⟩; have f3 : Ext W3 s3 := Ext.trans (by first | ((repeat first | assumption | exact Below.refl _ _ | refine ext_alloc ?_ _ | refine ext_drew ?_ | refine ext_set ?_ (by first | omega | (simp; done) | (simp; omega)) _); done) | fail) z3; have HH3 := Lib.hid (fun (w' : World) (h : Ext s3 w') => FracV.any (h6.below h) HF4.out (by omega)); have yy3 : W3.heap.size ≤ s3.heap.size := f3.size; (try (have dF := FBox.below dF z3)); (try (have dF := FBox.below (FBox.below dF (ext_drew (Below.refl _ _))) z3)); (try (have dF := FBox.below (FBox.new _ (.bool false) (.slice none 0 0) (.slice none 0 0) _) z3)); (try (have dF := FBox.below (FBox.below (FBox.new _ (.bool false) (.slice none 0 0) (.slice none 0 0) _) (ext_drew (Below.refl _ _))) z3)); (try (have dL := FBox.lt dF)); (try (have dG := dF; obtain ⟨e0, e1, e2, g0, g1, g2⟩ := dG)))
        | (go_at_call 22; (with_reducible refine (mul_f (HH2.out _ (by first | ((repeat first | assumption | exact Below.refl _ _ | refine ext_alloc ?_ _ | refine ext_drew ?_ | refine ext_set ?_ (by first | omega | (simp; done) | (simp; omega)) _ | refine Ext.trans ?_ z6 | refine Ext.trans ?_ z5 | refine Ext.trans ?_ z4 | refine Ext.trans ?_ z3 | refine Ext.trans ?_ z2 | refine Ext.trans ?_ z1); done) | fail)) (HP3.out _ (by first | ((repeat first | assumption | exact Below.refl _ _ | refine ext_alloc ?_ _ | refine ext_drew ?_ | refine ext_set ?_ (by first | omega | (simp; done) | (simp; omega)) _); done) | fail)) (by omega)).mono ?_); rintro _ s4 ⟨b7, A7, k7, c7, B7, l7, d7, rfl, h7, z4, _⟩; have f4 : Ext W3 s4 := Ext.trans (by first | ((repeat first | assumption | exact Below.refl _ _ | refine ext_alloc ?_ _ | refine ext_drew ?_ | refine ext_set ?_ (by first | omega | (simp; done) | (simp; omega)) _); done) | fail) z4; have HH4 := Lib.hid (fun (w' : World) (h : Ext s4 w') => FracV.any (h7.below h) HF5.out (by omega)); have yy4 : W3.heap.size ≤ s4.heap.size := f4.size; (try (have dF := FBox.below dF z4)); (try (have dF := FBox.below (FBox.below dF (ext_drew (Below.refl _ _))) z4)); (try (have dF := FBox.below (FBox.new _ (.bool false) (.slice none 0 0) (.slice none 0 0) _) z4)); (try (have dF := FBox.below (FBox.below (FBox.new _ (.bool false) (.slice none 0 0) (.slice none 0 0) _) (ext_drew (Below.refl _ _))) z4)); (try (have dL := FBox.lt dF)); (try (have dG := dF; obtain ⟨e0, e1, e2, g0, g1, g2⟩ := dG)))
        | (go_at_call 25; (with_reducible refine (add_f (HH3.out _ (by first | ((repeat first | assumption | exact Below.refl _ _ | refine ext_alloc ?_ _ | refine ext_drew ?_ | refine ext_set ?_ (by first | omega | (simp; done) | (simp; omega)) _ | refine Ext.trans ?_ z6 | refine Ext.trans ?_ z5 | refine Ext.trans ?_ z4 | refine Ext.trans ?_ z3 | refine Ext.trans ?_ z2 | refine Ext.trans ?_ z1); done) | fail)) (HH4.out _ (by first | ((repeat first | assumption | exact Below.refl _ _ | refine ext_alloc ?_ _ | refine ext_drew ?_ | refine ext_set ?_ (by first | omega | (simp; done) | (simp; omega)) _ | refine Ext.trans ?_ z6 | refine Ext.trans ?_ z5 | refine Ext.trans ?_ z4 | refine Ext.trans ?_ z3 | refine Ext.trans ?_ z2 | refine Ext.trans ?_ z1); done) | fail)) HF4.out HF5.out (by omega)).mono ?_); rintro _ s5 ⟨b8, A8, k8, c8, B8, l8, d8, rfl, h8, z5, n8, m8⟩; have f5 : Ext W3 s5 := Ext.trans (by first | ((repeat first | assumption | exact Below.refl _ _ | refine ext_alloc ?_ _ | refine ext_drew ?_ | refine ext_set ?_ (by first | omega | (simp; done) | (simp; omega)) _); done) | fail) z5; have yy5 : W3.heap.size ≤ s5.heap.size := f5.size; (try (have dF := FBox.below dF z5)); (try (have dF := FBox.below (FBox.below dF (ext_drew (Below.refl _ _))) z5)); (try (have dF := FBox.below (FBox.new _ (.bool false) (.slice none 0 0) (.slice none 0 0) _) z5)); (try (have dF := FBox.below (FBox.below (FBox.new _ (.bool false) (.slice none 0 0) (.slice none 0 0) _) (ext_drew (Below.refl _ _))) z5)); (try (have dL := FBox.lt dF)); (try (have dG := dF; obtain ⟨e0, e1, e2, g0, g1, g2⟩ := dG))))
    all_goals go_wp2
    all_goals go_meet
    all_goals first
      | (refine ⟨_, b8, A8, k8, c8, B8, l8, d8, rfl, ?_, FBox.new _ _ _ _ _, h8.below (ext_alloc (Below.refl _ _) _), ?_⟩ <;> first | (have := f5.size; omega) | ((repeat first | assumption | exact Below.refl _ _ | refine ext_alloc ?_ _ | refine ext_drew ?_ | (refine ext_set ?_ ?hle _; case hle => (first | omega | (simp; done) | (simp; omega)))); done))
      | (refine ⟨_, b8, A8, k8, c8, B8, l8, d8, rfl, ?_, dF.put _ _ _, h8.put n8 m8 ?_ _ _ _, ?_⟩ <;> first | omega | (simp; done) | (simp; omega) | ((repeat first | assumption | exact Below.refl _ _ | refine ext_alloc ?_ _ | refine ext_drew ?_ | (refine ext_set ?_ ?hle _; case hle => (first | omega | (simp; done) | (simp; omega)))); done))
  case rest =>
    obtain ⟨bm, bc, MA, mk, ml, MA', mk', ml', rfl, hbm, hM, vM, xM⟩ := hcut
    obtain ⟨W4, hW4⟩ : ∃ W4 : World, W4 = wc := ⟨_, rfl⟩
    subst hW4
    have HM := Lib.hid (fun (w' : World) (h : Ext W4 w') => FracV.any (vM.below h) HF6.out (by omega))
    obtain ⟨m0, m1, m2, _, _, _⟩ := hM
    obtain ⟨r10, r11, r12, _, _, _⟩ := HG1.out _ (E1.trans xM)
    have g0 : Ext W4 W4 := Below.refl _ _
    have HZ := Lib.hid ((cmpQ_zero _ _).2 HV.out)
    clear vM r20 r21 r22 r30 r31 r32
    go_wp2_with (go_at_call 24; (with_reducible refine (cmp_e (HP1.out _ (E1.trans (xM.trans (by first | ((repeat first | assumption | exact Below.refl _ _ | refine ext_alloc ?_ _ | refine ext_drew ?_ | refine ext_set ?_ (by first | omega | (simp; done) | (simp; omega)) _); done) | fail)))) (HM.out _ (by first | ((repeat first | assumption | exact Below.refl _ _ | refine ext_alloc ?_ _ | refine ext_drew ?_ | refine ext_set ?_ (by first | omega | (simp; done) | (simp; omega)) _); done) | fail)) (by omega) HZ.out).mono ?_); rintro _ s7 ⟨rfl, z7⟩)
    go_ret
    exact ⟨rfl, V0.trans (Y1.trans (E1.trans (xM.trans z7)))⟩

end Go.Proofs.YtglphodaoafdmaaDoor
