/- The walk of OccupancySplits. -/
import Derived.Test.YtglphodaoafdmaaDoorOcW
import Derived.Test.YtglphodaoafdmaaDoorOcV
set_option linter.unusedVariables false
set_option linter.unusedSimpArgs false
set_option maxRecDepth 100000
namespace Go.Proofs.YtglphodaoafdmaaDoor
open Go.RowKit Num

theorem most_sum (n D j : Nat) : sumTo (occ n D) (min j (n + 1)) = sumTo (occ n D) j := by
  rcases Nat.le_total j (n + 1) with h | h
  · rw [Nat.min_eq_left h]
  · rw [Nat.min_eq_right h]
    exact (sumTo_tail h fun k hk => occ_gt (.inl (by omega))).symm
theorem most_le {n D j : Nat} : sumTo (occ n D) j ≤ D ^ n := by
  rw [← most_sum, ← occ_sum n D]
  exact sumTo_mono (Nat.min_le_right _ _)
theorem mostQ_sum {n D j : Nat} {d : Int} (hd : d + 1 = (j : Int)) : mostQ n D d = frac false (sumTo (occ n D) j) (D ^ n) := by
  unfold mostQ mostN
  rw [show (d + 1).toNat = j from by omega, most_sum]
theorem leastQ_sum {n D j : Nat} : leastQ n D (j : Int) = frac false (D ^ n - sumTo (occ n D) j) (D ^ n) := by
  unfold leastQ
  rw [Int.toNat_natCast, most_sum]
theorem most_fb {n D m : Nat} (hn : n ≤ 31) (hD : D ≤ 60) (hm : m ≤ D ^ n) : FB (frac false m (D ^ n)) 40 := by
  have h1 := limbsOf_length_mono hm
  have h2 : (limbsOf (D ^ n)).length ≤ n + 1 := len_of_le_pow (Nat.le_refl _) (by omega)
  exact frac_fb (by omega) (by omega) (by decide)
theorem mostQ_fb {n D : Nat} {d : Int} (hn : n ≤ 31) (hD : D ≤ 60) : FB (mostQ n D d) 40 := most_fb hn hD (by unfold mostN; exact Nat.le_trans (sumTo_mono (Nat.min_le_right _ _)) (Nat.le_of_eq (occ_sum n D)))
theorem leastQ_fb {n D : Nat} {d : Int} (hn : n ≤ 31) (hD : D ≤ 60) : FB (leastQ n D d) 40 := most_fb hn hD (Nat.sub_le _ _)
theorem splits_one {n D j : Nat} {d : Int} (hD : 0 < D) (hd : d + 1 = (j : Int)) : cmpQ (mostQ n D d + leastQ n D (j : Int)) (((1 : Int) : Rat) / ((1 : Int) : Rat)) = 0 := by
  rw [cmpQ_zero, mostQ_sum hd, leastQ_sum, frac_add (by have := Nat.pow_pos (n := n) hD; omega) (by have := Nat.pow_pos (n := n) hD; omega), ← Nat.add_mul, Nat.add_sub_cancel' most_le, frac_false, Rat.div_def]
  have hp := pow_ne (n := n) hD
  rw [Rat.natCast_mul]
  have e : ((1 : Int) : Rat) / ((1 : Int) : Rat) = 1 := by decide +kernel
  rw [e]
  generalize ((D ^ n : Nat) : Rat) = X at *
  grind
theorem cmp_le_frac {n m d e : Nat} (hd : d ≠ 0) (he : e ≠ 0) (h : n * e ≤ m * d) : cmpQ (frac false n d) (frac false m e) ≤ 0 := by
  have h1 : ¬ 0 < cmpQ (frac false n d) (frac false m e) := by
    rw [cmpQ_pos, frac_false, frac_false, frac_lt he hd]
    omega
  omega
theorem splits_more {n D j : Nat} {d : Int} (hD : 0 < D) (hd : d + 1 = (j : Int)) : cmpQ (mostQ (n + 1) D d) (mostQ n D d) ≤ 0 := by
  rw [mostQ_sum hd, mostQ_sum hd]
  refine cmp_le_frac (by have := Nat.pow_pos (n := n + 1) hD; omega) (by have := Nat.pow_pos (n := n) hD; omega) ?_
  have h := Nat.mul_le_mul_right (D ^ n) (occ_most_le n D j)
  rw [Nat.pow_succ, Nat.mul_comm (D ^ n) D, ← Nat.mul_assoc, Nat.mul_comm _ D]
  exact h
theorem splits_die {n D j : Nat} {d : Int} (hD : 0 < D) (hd : d + 1 = (j : Int)) : cmpQ (mostQ n (D + 1) d) (mostQ n D d) ≤ 0 := by
  rw [mostQ_sum hd, mostQ_sum hd]
  exact cmp_le_frac (by have := Nat.pow_pos (n := n) (show 0 < D + 1 by omega); omega) (by have := Nat.pow_pos (n := n) hD; omega) (occ_more_dies n D hD j)
theorem sgn_frac_nonneg (n d : Nat) : 0 ≤ sgnQ (frac false n d) := by
  by_cases h : n = 0 ∨ d = 0
  · rw [sgnQ_zero h]; exact Int.le_refl _
  · rw [sgnQ_frac (by omega) (by omega)]; decide

set_option maxHeartbeats 8000000 in
theorem law_OSplits {n D d : Int} {w : World} (hn : -9223372036854775808 ≤ n ∧ n ≤ 9223372036854775807) (hD : -9223372036854775808 ≤ D ∧ D ≤ 9223372036854775807) (hd : -9223372036854775808 ≤ d ∧ d ≤ 9223372036854775807) (ht : Tab10 w) :
    Calls Tryd.prog 11 #[.int .i64 n, .int .i64 D, .int .i64 d] w (fun e w' => e = .returned (.bool true) ∧ Ext w w') := by
  have HT := Lib.hid (fun (w' : World) (h : Ext w w') => ht.ext h)
  go_enter Tryd.func11, Tryd.ntmps11
  go_wp2_with fail
  refine (oawake ht).mono ?_
  rintro e W0 ⟨rfl, V0⟩
  clear ht
  go_wp2_with fail
  refine (onumbers hn hD).mono ?_
  rintro e w0 ⟨m, k, hmk, rfl, rfl⟩
  obtain ⟨N, hN⟩ : ∃ N : Nat, N = min m 29 := ⟨_, rfl⟩
  have hmin : min (m : Int) 29 = (N : Int) := by omega
  obtain ⟨DD, hDD⟩ : ∃ DD : Nat, DD = min (k + 1) 59 := ⟨_, rfl⟩
  have hmin2 : min ((k : Int) + 1) 59 = (DD : Int) := by omega
  have hN2 : N ≤ 29 := by omega
  have hD1 : 1 ≤ DD := by omega
  have hD2 : DD ≤ 59 := by omega
  clear hN hDD hmk
  go_wp2_with fail
  refine (mod_i (b := 33) (by omega) (by omega) hd).mono ?_
  rintro e w2 ⟨j, hj, rfl, rfl⟩
  obtain ⟨d', hd'⟩ : ∃ d' : Int, d' = (j : Int) - 1 := ⟨_, rfl⟩
  have hd1 : IntKind.i64.wrap ((j : Int) - 1) = d' := by rw [wrap_in (by omega)]; omega
  have hd2 : IntKind.i64.wrap (d' + 1) = (j : Int) := by rw [wrap_in (by omega)]; omega
  have hd3 : -1 ≤ d' ∧ d' ≤ 32 := by omega
  have hn1 : IntKind.i64.wrap ((N : Int) + 1) = (N : Int) + 1 := wrap_in (by omega)
  have hn2 : IntKind.i64.wrap ((DD : Int) + 1) = (DD : Int) + 1 := wrap_in (by omega)
  have hdj : d' + 1 = (j : Int) := by omega
  have hD0 : 0 < DD := by omega
  have HV1 := Lib.hid (splits_one (n := N) hD0 hdj)
  obtain ⟨z2, hz2⟩ : ∃ z2, cmpQ (mostQ (N + 1) DD d') (mostQ N DD d') = z2 := ⟨_, rfl⟩
  obtain ⟨z3, hz3⟩ : ∃ z3, cmpQ (mostQ N (DD + 1) d') (mostQ N DD d') = z3 := ⟨_, rfl⟩
  obtain ⟨z4, hz4⟩ : ∃ z4, sgnQ (mostQ N DD d') = z4 := ⟨_, rfl⟩
  have hl2 : z2 ≤ 0 := by rw [← hz2]; exact splits_more hD0 hdj
  have hl3 : z3 ≤ 0 := by rw [← hz3]; exact splits_die hD0 hdj
  have hl4 : 0 ≤ z4 := by rw [← hz4]; exact sgn_frac_nonneg _ _
  have HZ2 := Lib.hid hz2
  have HZ3 := Lib.hid hz3
  have HZ4 := Lib.hid hz4
  have HC3 := Lib.hid (fun w (ht : Tab10 w) => (show Calls Tryd.prog 14 #[.int .i64 ((N : Int) + 1), .int .i64 DD, .int .i64 d'] w (GivesFE w (mostQ (N + 1) DD d')) from by
    have h := oatmost_ok (n := N + 1) (D := DD) (d := d') (w := w) (by omega) hD1 (by omega) (by omega) ht
    rw [show ((N + 1 : Nat) : Int) = (N : Int) + 1 from by omega] at h
    exact h))
  have HC4 := Lib.hid (fun w (ht : Tab10 w) => (show Calls Tryd.prog 14 #[.int .i64 N, .int .i64 ((DD : Int) + 1), .int .i64 d'] w (GivesFE w (mostQ N (DD + 1) d')) from by
    have h := oatmost_ok (n := N) (D := DD + 1) (d := d') (w := w) (by omega) (by omega) (by omega) (by omega) ht
    rw [show ((DD + 1 : Nat) : Int) = (DD : Int) + 1 from by omega] at h
    exact h))
  have HO := Lib.hid one1_fb
  have HF1 := Lib.hid (mostQ_fb (n := N) (D := DD) (d := d') (by omega) (by omega))
  have HF2 := Lib.hid (leastQ_fb (n := N) (D := DD) (d := (j : Int)) (by omega) (by omega))
  have HF3 := Lib.hid (mostQ_fb (n := N + 1) (D := DD) (d := d') (by omega) (by omega))
  have HF4 := Lib.hid (mostQ_fb (n := N) (D := DD + 1) (d := d') (by omega) (by omega))
  have HF5 := Lib.hid (FB.add HF1.out HF2.out (by omega))
  have hj0 : (j : Int) ≤ 33 := by omega
  clear hd' hj hd hz2 hz3 hz4 hdj hn hD
  go_wp2_with fail
  refine (oatmost_ok (n := N) (D := DD) (d := d') (by omega) hD1 (by omega) (by omega) (HT.out _ V0)).mono ?_
  rintro e w1 ⟨b1, A1, k1, c1, A1', k1', c1', rfl, h1, y1, n1, n1'⟩
  clear n1 n1'
  go_upto_region 7 with (fail)
  have hG1 := FBox.new w1 (.bool b1) (.slice A1 k1 c1) (.slice A1' k1' c1') 31
  have Y1 : Ext w2 (w1.alloc (.cells #[.bool b1, .slice A1 k1 c1, .slice A1' k1' c1'] 31)) := ext_alloc y1 _
  have h1 := h1.below (ext_alloc (Below.refl _ _) (.cells #[.bool b1, .slice A1 k1 c1, .slice A1' k1' c1'] 31))
  have hsz1 : w1.heap.size < (w1.alloc (.cells #[.bool b1, .slice A1 k1 c1, .slice A1' k1' c1'] 31)).heap.size := by simp
  generalize w1.alloc (.cells #[.bool b1, .slice A1 k1 c1, .slice A1' k1' c1'] 31) = W1 at *
  generalize w1.heap.size = B1 at *
  have HG1 := Lib.hid (fun (w' : World) (h : Ext W1 w') => hG1.below h)
  have HP1 := Lib.hid (fun (w' : World) (h : Ext W1 w') => FracV.any (h1.below h) (HF1.out) (by omega))
  clear hG1 h1 y1 hsz1
  go_wp2_with fail
  refine (oatleast_ok (n := N) (D := DD) (d := (j : Int)) (by omega) hD1 (by omega) (by omega) (HT.out _ (V0.trans Y1))).mono ?_
  rintro e w2 ⟨b2, A2, k2, c2, A2', k2', c2', rfl, h2, y2, n2, n2'⟩
  clear n2 n2'
  go_upto_region 8 with (fail)
  have hG2 := FBox.new w2 (.bool b2) (.slice A2 k2 c2) (.slice A2' k2' c2') 31
  have Y2 : Ext W1 (w2.alloc (.cells #[.bool b2, .slice A2 k2 c2, .slice A2' k2' c2'] 31)) := ext_alloc y2 _
  have h2 := h2.below (ext_alloc (Below.refl _ _) (.cells #[.bool b2, .slice A2 k2 c2, .slice A2' k2' c2'] 31))
  have hsz2 : w2.heap.size < (w2.alloc (.cells #[.bool b2, .slice A2 k2 c2, .slice A2' k2' c2'] 31)).heap.size := by simp
  generalize w2.alloc (.cells #[.bool b2, .slice A2 k2 c2, .slice A2' k2' c2'] 31) = W2 at *
  generalize w2.heap.size = B2 at *
  have HG2 := Lib.hid (fun (w' : World) (h : Ext W2 w') => hG2.below h)
  have HP2 := Lib.hid (fun (w' : World) (h : Ext W2 w') => FracV.any (h2.below h) (HF2.out) (by omega))
  clear hG2 h2 y2 hsz2
  go_wp2_with fail
  refine (HC3.out _ (HT.out _ (V0.trans (Y1.trans Y2)))).mono ?_
  rintro e w3 ⟨b3, A3, k3, c3, A3', k3', c3', rfl, h3, y3, n3, n3'⟩
  clear n3 n3'
  go_upto_region 9 with (fail)
  have hG3 := FBox.new w3 (.bool b3) (.slice A3 k3 c3) (.slice A3' k3' c3') 31
  have Y3 : Ext W2 (w3.alloc (.cells #[.bool b3, .slice A3 k3 c3, .slice A3' k3' c3'] 31)) := ext_alloc y3 _
  have h3 := h3.below (ext_alloc (Below.refl _ _) (.cells #[.bool b3, .slice A3 k3 c3, .slice A3' k3' c3'] 31))
  have hsz3 : w3.heap.size < (w3.alloc (.cells #[.bool b3, .slice A3 k3 c3, .slice A3' k3' c3'] 31)).heap.size := by simp
  generalize w3.alloc (.cells #[.bool b3, .slice A3 k3 c3, .slice A3' k3' c3'] 31) = W3 at *
  generalize w3.heap.size = B3 at *
  have HG3 := Lib.hid (fun (w' : World) (h : Ext W3 w') => hG3.below h)
  have HP3 := Lib.hid (fun (w' : World) (h : Ext W3 w') => FracV.any (h3.below h) (HF3.out) (by omega))
  clear hG3 h3 y3 hsz3
  go_wp2_with fail
  refine (HC4.out _ (HT.out _ (V0.trans (Y1.trans (Y2.trans Y3))))).mono ?_
  rintro e w4 ⟨b4, A4, k4, c4, A4', k4', c4', rfl, h4, y4, n4, n4'⟩
  clear n4 n4'
  go_upto_region 10 with (fail)
  have hG4 := FBox.new w4 (.bool b4) (.slice A4 k4 c4) (.slice A4' k4' c4') 31
  have Y4 : Ext W3 (w4.alloc (.cells #[.bool b4, .slice A4 k4 c4, .slice A4' k4' c4'] 31)) := ext_alloc y4 _
  have h4 := h4.below (ext_alloc (Below.refl _ _) (.cells #[.bool b4, .slice A4 k4 c4, .slice A4' k4' c4'] 31))
  have hsz4 : w4.heap.size < (w4.alloc (.cells #[.bool b4, .slice A4 k4 c4, .slice A4' k4' c4'] 31)).heap.size := by simp
  generalize w4.alloc (.cells #[.bool b4, .slice A4 k4 c4, .slice A4' k4' c4'] 31) = W4 at *
  generalize w4.heap.size = B4 at *
  have HG4 := Lib.hid (fun (w' : World) (h : Ext W4 w') => hG4.below h)
  have HP4 := Lib.hid (fun (w' : World) (h : Ext W4 w') => FracV.any (h4.below h) (HF4.out) (by omega))
  clear hG4 h4 y4 hsz4
  have E3 : Ext W3 W4 := Y4
  have E2 : Ext W2 W4 := Y3.trans E3
  have E1 : Ext W1 W4 := Y2.trans E2
  have HC := Lib.hid (fun (w' : World) (h : Ext W4 w') => (⟨HG1.out _ (E1.trans h), HG2.out _ (E2.trans h), HG3.out _ (E3.trans h), HG4.out _ h⟩ : _ ∧ _ ∧ _ ∧ _))
  obtain ⟨⟨p0, p1, p2, _, _, _⟩, ⟨q0, q1, q2, _, _, _⟩, ⟨r0, r1, r2, _, _, _⟩, s0, s1, s2, _, _, _⟩ := HC.out _ (Below.refl _ _)
  have f0 : Ext W4 W4 := Below.refl _ _
  go_wp2_with (first
    | (go_at_call 25; (with_reducible refine (add_f (HP1.out _ (E1.trans f0)) (HP2.out _ (E2.trans f0)) HF1.out HF2.out (by omega)).mono ?_); rintro _ s1' ⟨b5, A5, k5, c5, B5, l5, d5, rfl, h5, z5, _⟩; have f0 := z5; have HH5 := Lib.hid (fun (w' : World) (h : Ext s1' w') => FracV.any (h5.below h) HF5.out (by omega)); obtain ⟨⟨p0, p1, p2, _, _, _⟩, ⟨q0, q1, q2, _, _, _⟩, ⟨r0, r1, r2, _, _, _⟩, s0, s1, s2, _, _, _⟩ := HC.out _ f0)
    | (go_at_call 23; (with_reducible refine (fof_n (n := 1) (d := 1) (by omega) (by omega)).mono ?_); rintro _ s2' ⟨b6, A6, k6, c6, B6, l6, d6, rfl, h6, z6, _⟩; have f0 := Ext.trans f0 z6; have HH6 := Lib.hid (fun (w' : World) (h : Ext s2' w') => FracV.any (h6.below h) HO.out (by omega)); obtain ⟨⟨p0, p1, p2, _, _, _⟩, ⟨q0, q1, q2, _, _, _⟩, ⟨r0, r1, r2, _, _, _⟩, s0, s1, s2, _, _, _⟩ := HC.out _ f0)
    | (go_at_call 24; (with_reducible refine (cmp_e (HH5.out _ z6) (HH6.out _ (Below.refl _ _)) (by omega) HV1.out).mono ?_); rintro _ s3' ⟨rfl, z7⟩; have f0 := Ext.trans f0 z7; obtain ⟨⟨p0, p1, p2, _, _, _⟩, ⟨q0, q1, q2, _, _, _⟩, ⟨r0, r1, r2, _, _, _⟩, s0, s1, s2, _, _, _⟩ := HC.out _ f0)
    | (go_at_call 24; (with_reducible refine (cmp_e (HP3.out _ (E3.trans f0)) (HP1.out _ (E1.trans f0)) (by omega) HZ2.out).mono ?_); rintro _ s4' ⟨rfl, z7⟩; have f0 := Ext.trans f0 z7; obtain ⟨⟨p0, p1, p2, _, _, _⟩, ⟨q0, q1, q2, _, _, _⟩, ⟨r0, r1, r2, _, _, _⟩, s0, s1, s2, _, _, _⟩ := HC.out _ f0)
    | (go_at_call 24; (with_reducible refine (cmp_e (HP4.out _ f0) (HP1.out _ (E1.trans f0)) (by omega) HZ3.out).mono ?_); rintro _ s5' ⟨rfl, z7⟩; have f0 := Ext.trans f0 z7; obtain ⟨⟨p0, p1, p2, _, _, _⟩, ⟨q0, q1, q2, _, _, _⟩, ⟨r0, r1, r2, _, _, _⟩, s0, s1, s2, _, _, _⟩ := HC.out _ f0)
    | (go_at_call 42; (with_reducible refine (sign_e (HP1.out _ (E1.trans f0)) HZ4.out).mono ?_); rintro _ s6' ⟨rfl, z7⟩; have f0 := Ext.trans f0 z7; obtain ⟨⟨p0, p1, p2, _, _, _⟩, ⟨q0, q1, q2, _, _, _⟩, ⟨r0, r1, r2, _, _, _⟩, s0, s1, s2, _, _, _⟩ := HC.out _ f0))
  go_ret
  exact ⟨rfl, V0.trans (Y1.trans (E1.trans f0))⟩

end Go.Proofs.YtglphodaoafdmaaDoor
