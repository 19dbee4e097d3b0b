/- The walk of OccupancySingles. -/
import Derived.Test.YtglphodaoafdmaaDoorOcW
import Derived.Test.YtglphodaoafdmaaDoorOcS
set_option linter.unusedVariables false
set_option linter.unusedSimpArgs false
set_option maxRecDepth 100000
namespace Go.Proofs.YtglphodaoafdmaaDoor
open Go.RowKit Num

theorem powQ_less {D n : Nat} (hD : 1 ≤ D) : powQ (one1 - ((1 : Int) : Rat) / ((D : Int) : Rat)) n = ((D : Rat) - 1) ^ n / (D : Rat) ^ n := by
  rw [less_one hD, powQ_frac (by omega), frac_false, Rat.natCast_pow, Rat.natCast_pow]
  rw [show ((D - 1 : Nat) : Rat) = (D : Rat) - 1 from by
    have h : ((D - 1 + 1 : Nat) : Rat) = (D : Rat) := by rw [show D - 1 + 1 = D from by omega]
    rw [Rat.natCast_add] at h
    have h1 : ((1 : Nat) : Rat) = 1 := rfl
    grind]
theorem pow_ne0 {x : Rat} (hx : x ≠ 0) (n : Nat) : x ^ n ≠ 0 := by
  induction n with
  | zero => rw [Rat.pow_zero]; decide
  | succ n ih => rw [Rat.pow_succ]; intro h; rcases Rat.mul_eq_zero.1 h with h | h <;> contradiction
theorem singles_val {n D : Nat} (hn : 1 ≤ n) (hD : 1 ≤ D) : cmpQ (singlesQ n D) (((n : Int) : Rat) / ((1 : Int) : Rat) * (meanQ n D - meanQ (n - 1) D)) = 0 := by
  rw [cmpQ_zero]
  obtain ⟨m, rfl⟩ : ∃ m, n = m + 1 := ⟨n - 1, by omega⟩
  unfold singlesQ meanQ
  rw [Nat.add_sub_cancel, powQ_less hD, powQ_less hD, Rat.pow_succ, Rat.pow_succ]
  have hx : (D : Rat) ≠ 0 := by exact_mod_cast (show D ≠ 0 from by omega)
  have hp := pow_ne0 hx m
  generalize hX : (D : Rat) ^ m = X at *
  generalize ((D : Rat) - 1) ^ m = Y
  rw [Rat.intCast_natCast, Rat.intCast_natCast]
  simp only [one1, Rat.intCast_one, Rat.div_def, Rat.inv_mul_rev]
  have h1 : X * X⁻¹ = 1 := Rat.mul_inv_cancel _ hp
  have h2 : (D : Rat) * (D : Rat)⁻¹ = 1 := Rat.mul_inv_cancel _ hx
  generalize X⁻¹ = X' at *
  generalize (D : Rat)⁻¹ = D' at *
  generalize (D : Rat) = E at *
  grind

set_option maxHeartbeats 8000000 in
theorem law_OSingles {n D : Int} {w : World} (hn : -9223372036854775808 ≤ n ∧ n ≤ 9223372036854775807) (hD : -9223372036854775808 ≤ D ∧ D ≤ 9223372036854775807) (ht : Tab10 w) :
    Calls Tryd.prog 7 #[.int .i64 n, .int .i64 D] w (fun e w' => e = .returned (.bool true) ∧ Ext w w') := by
  go_enter Tryd.func7, Tryd.ntmps7
  have HT := Lib.hid (fun (w' : World) (h : Ext w w') => ht.ext h)
  go_wp2_with fail
  refine (oawake ht).mono ?_
  rintro e W0 ⟨rfl, V0⟩
  go_wp2_with fail
  refine (onumbers hn hD).mono ?_
  rintro e w0 ⟨m, k, hmk, rfl, rfl⟩
  obtain ⟨N, hN⟩ : ∃ N : Nat, N = max m 1 := ⟨_, rfl⟩
  have hmax : max (m : Int) 1 = (N : Int) := by omega
  have hN1 : 1 ≤ N := by omega
  have hN2 : N ≤ 30 := by omega
  have hk1 := hmk.2
  obtain ⟨DD, hDD⟩ : ∃ DD : Nat, DD = k + 1 := ⟨_, rfl⟩
  have hDe : (k : Int) + 1 = (DD : Int) := by omega
  have hD1 : 1 ≤ DD := by omega
  have hD2 : DD ≤ 60 := by omega
  rw [hDe]
  clear hN hDD hDe hk1 hmk
  have HV := Lib.hid (singles_val hN1 hD1)
  have hw1 : IntKind.i64.wrap ((N : Int) - 1) = ((N - 1 : Nat) : Int) := by rw [wrap_in (by omega)]; omega
  have HS := Lib.hid (less_small hD1 hD2)
  have HDD := Lib.hid (show FB (((DD : Int) : Rat) / ((1 : Int) : Rat)) 3 from fb_i64 (by omega) (by omega))
  have HFN := Lib.hid (show FB (((N : Int) : Rat) / ((1 : Int) : Rat)) 3 from fb_i64 (by omega) (by omega))
  have HFB1 := Lib.hid (show FB (singlesQ N DD) 34 from FB.mul HFN.out (powQ_fb (n := N - 1) HS.out.1 HS.out.2 (by omega)) (by omega))
  have HFB2 := Lib.hid (show FB (meanQ N DD) 38 from FB.mul HDD.out (FB.sub one1_fb (powQ_fb (n := N) HS.out.1 HS.out.2 (by omega)) (by omega)) (by omega))
  have HFB3 := Lib.hid (show FB (meanQ (N - 1) DD) 38 from FB.mul HDD.out (FB.sub one1_fb (powQ_fb (n := N - 1) HS.out.1 HS.out.2 (by omega)) (by omega)) (by omega))
  have HF4 := Lib.hid (FB.sub HFB2.out HFB3.out (by omega))
  have HF5 := Lib.hid (FB.mul HFN.out HF4.out (by omega))
  clear hD hn ht
  go_upto_region 5 with (fail)
  go_wp2_with fail
  refine (osingles_ok (n := N) (D := DD) hN1 hN2 hD1 hD2 (HT.out _ V0)).mono ?_
  rintro e w1 ⟨b1, A1, k1, c1, A1', k1', c1', rfl, h1, y1, n1, n1'⟩
  clear n1 n1'
  go_upto_region 6 with (fail)
  have hG1 := FBox.new w1 (.bool b1) (.slice A1 k1 c1) (.slice A1' k1' c1') 31
  have Y1 : Ext w0 (w1.alloc (.cells #[.bool b1, .slice A1 k1 c1, .slice A1' k1' c1'] 31)) := ext_alloc y1 _
  have h1 := h1.below (ext_alloc (Below.refl _ _) (.cells #[.bool b1, .slice A1 k1 c1, .slice A1' k1' c1'] 31))
  have hsz1 : w1.heap.size < (w1.alloc (.cells #[.bool b1, .slice A1 k1 c1, .slice A1' k1' c1'] 31)).heap.size := by simp
  generalize w1.alloc (.cells #[.bool b1, .slice A1 k1 c1, .slice A1' k1' c1'] 31) = W1 at *
  generalize w1.heap.size = B1 at *
  have HG1 := Lib.hid (fun (w' : World) (h : Ext W1 w') => hG1.below h)
  have HP1 := Lib.hid (fun (w' : World) (h : Ext W1 w') => FracV.any (h1.below h) HFB1.out (by omega))
  clear hG1 h1 y1 hsz1
  go_wp2_with fail
  refine (omean_ok (n := N) (D := DD) hN2 hD1 hD2 (HT.out _ (V0.trans Y1))).mono ?_
  rintro e w2 ⟨b2, A2, k2, c2, A2', k2', c2', rfl, h2, y2, n2, n2'⟩
  clear n2 n2'
  go_upto_region 7 with (fail)
  have hG2 := FBox.new w2 (.bool b2) (.slice A2 k2 c2) (.slice A2' k2' c2') 31
  have Y2 : Ext W1 (w2.alloc (.cells #[.bool b2, .slice A2 k2 c2, .slice A2' k2' c2'] 31)) := ext_alloc y2 _
  have h2 := h2.below (ext_alloc (Below.refl _ _) (.cells #[.bool b2, .slice A2 k2 c2, .slice A2' k2' c2'] 31))
  have hsz2 : w2.heap.size < (w2.alloc (.cells #[.bool b2, .slice A2 k2 c2, .slice A2' k2' c2'] 31)).heap.size := by simp
  generalize w2.alloc (.cells #[.bool b2, .slice A2 k2 c2, .slice A2' k2' c2'] 31) = W2 at *
  generalize w2.heap.size = B2 at *
  have HG2 := Lib.hid (fun (w' : World) (h : Ext W2 w') => hG2.below h)
  have HP2 := Lib.hid (fun (w' : World) (h : Ext W2 w') => FracV.any (h2.below h) HFB2.out (by omega))
  clear hG2 h2 y2 hsz2
  go_wp2_with fail
  refine (omean_ok (n := N - 1) (D := DD) (by omega) hD1 hD2 (HT.out _ (V0.trans (Y1.trans Y2)))).mono ?_
  rintro e w3 ⟨b3, A3, k3, c3, A3', k3', c3', rfl, h3, y3, n3, n3'⟩
  clear n3 n3'
  go_upto_region 8 with (fail)
  have hG3 := FBox.new w3 (.bool b3) (.slice A3 k3 c3) (.slice A3' k3' c3') 31
  have Y3 : Ext W2 (w3.alloc (.cells #[.bool b3, .slice A3 k3 c3, .slice A3' k3' c3'] 31)) := ext_alloc y3 _
  have h3 := h3.below (ext_alloc (Below.refl _ _) (.cells #[.bool b3, .slice A3 k3 c3, .slice A3' k3' c3'] 31))
  have hsz3 : w3.heap.size < (w3.alloc (.cells #[.bool b3, .slice A3 k3 c3, .slice A3' k3' c3'] 31)).heap.size := by simp
  generalize w3.alloc (.cells #[.bool b3, .slice A3 k3 c3, .slice A3' k3' c3'] 31) = W3 at *
  generalize w3.heap.size = B3 at *
  have HG3 := Lib.hid (fun (w' : World) (h : Ext W3 w') => hG3.below h)
  have HP3 := Lib.hid (fun (w' : World) (h : Ext W3 w') => FracV.any (h3.below h) HFB3.out (by omega))
  clear hG3 h3 y3 hsz3
  have E2 : Ext W2 W3 := Y3
  have E1 : Ext W1 W3 := Y2.trans E2
  have HC := Lib.hid (fun (w' : World) (h : Ext W3 w') => (⟨(HG1.out _ (E1.trans h)).1, (HG1.out _ (E1.trans h)).2.1, (HG1.out _ (E1.trans h)).2.2.1, (HG2.out _ (E2.trans h)).1, (HG2.out _ (E2.trans h)).2.1, (HG2.out _ (E2.trans h)).2.2.1, (HG3.out _ h).1, (HG3.out _ h).2.1, (HG3.out _ h).2.2.1⟩ : w'.cell? ⟨B1, 0, none⟩ = some (.bool b1) ∧ w'.cell? ⟨B1, 1, none⟩ = some (.slice A1 k1 c1) ∧ w'.cell? ⟨B1, 2, none⟩ = some (.slice A1' k1' c1') ∧ w'.cell? ⟨B2, 0, none⟩ = some (.bool b2) ∧ w'.cell? ⟨B2, 1, none⟩ = some (.slice A2 k2 c2) ∧ w'.cell? ⟨B2, 2, none⟩ = some (.slice A2' k2' c2') ∧ w'.cell? ⟨B3, 0, none⟩ = some (.bool b3) ∧ w'.cell? ⟨B3, 1, none⟩ = some (.slice A3 k3 c3) ∧ w'.cell? ⟨B3, 2, none⟩ = some (.slice A3' k3' c3')))
  obtain ⟨r10, r11, r12, r20, r21, r22, r30, r31, r32⟩ := HC.out _ (Below.refl _ _)
  have g0 : Ext W3 W3 := Below.refl _ _
  go_region_held3 (fun w' => w'.cell? ⟨B1, 0, none⟩ = some (.bool b1) ∧ w'.cell? ⟨B1, 1, none⟩ = some (.slice A1 k1 c1) ∧ w'.cell? ⟨B1, 2, none⟩ = some (.slice A1' k1' c1') ∧ w'.cell? ⟨B2, 0, none⟩ = some (.bool b2) ∧ w'.cell? ⟨B2, 1, none⟩ = some (.slice A2 k2 c2) ∧ w'.cell? ⟨B2, 2, none⟩ = some (.slice A2' k2' c2') ∧ w'.cell? ⟨B3, 0, none⟩ = some (.bool b3) ∧ w'.cell? ⟨B3, 1, none⟩ = some (.slice A3 k3 c3) ∧ w'.cell? ⟨B3, 2, none⟩ = some (.slice A3' k3' c3')) (exact HC.out _ (by first | ((repeat first | assumption | exact Below.refl _ _ | refine ext_alloc ?_ _ | refine ext_drew ?_ | refine ext_set ?_ (by first | omega | (simp; done) | (simp; omega)) _); done) | fail))
    (first
      | (go_at_call 23; (with_reducible refine (fof_n (n := (N : Int)) (d := 1) (by omega) (by omega)).mono ?_); rintro _ s1 ⟨b4, A4, k4, c4, B4, l4, d4, rfl, h4, z1, _⟩; have f1 : Ext W3 s1 := Ext.trans (by first | ((repeat first | assumption | exact Below.refl _ _ | refine ext_alloc ?_ _ | refine ext_drew ?_ | refine ext_set ?_ (by first | omega | (simp; done) | (simp; omega)) _); done) | fail) z1; have HH1 := Lib.hid (fun (w' : World) (h : Ext s1 w') => FracV.any (L := 3) (h4.below h) HFN.out (by omega)))
      | (go_at_call 39; (with_reducible refine (sub_f (HP2.out _ (E2.trans (by first | ((repeat first | assumption | exact Below.refl _ _ | refine ext_alloc ?_ _ | refine ext_drew ?_ | refine ext_set ?_ (by first | omega | (simp; done) | (simp; omega)) _); done) | fail))) (HP3.out _ (by first | ((repeat first | assumption | exact Below.refl _ _ | refine ext_alloc ?_ _ | refine ext_drew ?_ | refine ext_set ?_ (by first | omega | (simp; done) | (simp; omega)) _); done) | fail)) HFB2.out HFB3.out (by omega)).mono ?_); rintro _ s2 ⟨b5, A5, k5, c5, B5, l5, d5, rfl, h5, z2, _⟩; have f2 : Ext W3 s2 := Ext.trans (by first | ((repeat first | assumption | exact Below.refl _ _ | refine ext_alloc ?_ _ | refine ext_drew ?_ | refine ext_set ?_ (by first | omega | (simp; done) | (simp; omega)) _); done) | fail) z2; have HH2 := Lib.hid (fun (w' : World) (h : Ext s2 w') => FracV.any (h5.below h) HF4.out (by omega)))
      | (go_at_call 22; (with_reducible refine (mul_f (HH1.out _ (by first | ((repeat first | assumption | exact Below.refl _ _ | refine ext_alloc ?_ _ | refine ext_drew ?_ | refine ext_set ?_ (by first | omega | (simp; done) | (simp; omega)) _ | refine Ext.trans ?_ z6 | refine Ext.trans ?_ z5 | refine Ext.trans ?_ z4 | refine Ext.trans ?_ z3 | refine Ext.trans ?_ z2 | refine Ext.trans ?_ z1); done) | fail)) (HH2.out _ (by first | ((repeat first | assumption | exact Below.refl _ _ | refine ext_alloc ?_ _ | refine ext_drew ?_ | refine ext_set ?_ (by first | omega | (simp; done) | (simp; omega)) _ | refine Ext.trans ?_ z6 | refine Ext.trans ?_ z5 | refine Ext.trans ?_ z4 | refine Ext.trans ?_ z3 | refine Ext.trans ?_ z2 | refine Ext.trans ?_ z1); done) | fail)) (by omega)).mono ?_); rintro _ s3 ⟨b6, A6, k6, c6, B6, l6, d6, rfl, h6, z3, _⟩; have f3 : Ext W3 s3 := Ext.trans (by first | ((repeat first | assumption | exact Below.refl _ _ | refine ext_alloc ?_ _ | refine ext_drew ?_ | refine ext_set ?_ (by first | omega | (simp; done) | (simp; omega)) _); done) | fail) z3; have HH3 := Lib.hid (fun (w' : World) (h : Ext s3 w') => FracV.any (h6.below h) HF5.out (by omega)))
      | (go_at_call 24; (with_reducible refine (cmp_e (HP1.out _ (E1.trans (by first | ((repeat first | assumption | exact Below.refl _ _ | refine ext_alloc ?_ _ | refine ext_drew ?_ | refine ext_set ?_ (by first | omega | (simp; done) | (simp; omega)) _); done) | fail))) (HH3.out _ (by first | ((repeat first | assumption | exact Below.refl _ _ | refine ext_alloc ?_ _ | refine ext_drew ?_ | refine ext_set ?_ (by first | omega | (simp; done) | (simp; omega)) _ | refine Ext.trans ?_ z6 | refine Ext.trans ?_ z5 | refine Ext.trans ?_ z4 | refine Ext.trans ?_ z3 | refine Ext.trans ?_ z2 | refine Ext.trans ?_ z1); done) | fail)) (by omega) HV.out).mono ?_); rintro _ s4 ⟨rfl, z4⟩; have f4 : Ext W3 s4 := Ext.trans (by first | ((repeat first | assumption | exact Below.refl _ _ | refine ext_alloc ?_ _ | refine ext_drew ?_ | refine ext_set ?_ (by first | omega | (simp; done) | (simp; omega)) _); done) | fail) z4))
  all_goals go_wp2
  all_goals go_ret
  all_goals exact ⟨rfl, V0.trans (Y1.trans (E1.trans f4))⟩

end Go.Proofs.YtglphodaoafdmaaDoor
