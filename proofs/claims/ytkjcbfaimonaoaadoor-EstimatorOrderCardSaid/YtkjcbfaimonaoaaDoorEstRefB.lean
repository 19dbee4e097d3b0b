/- ref42: Carter, Jackknife, Chao. -/
import Derived.Test.YtkjcbfaimonaoaaDoorEstB2
import Derived.Test.YtkjcbfaimonaoaaDoorRFracP
import Derived.Test.YtkjcbfaimonaoaaDoorEstN
set_option linter.unusedVariables false
set_option linter.unusedSimpArgs false
set_option maxRecDepth 100000
namespace Go.Proofs.YtkjcbfaimonaoaaDoor
open Go.RowKit Num

theorem rf_z {zs : List Int} {x : Value} {k : Int} {w : World} (hx : IntsV w x zs) (hl : zs.length ≤ 64) (h2 : zs.count k = 0) :
    Calls Tryd.prog 41 #[x, .int .i64 k] w (fun e w' => e = .returned (.int .i64 0) ∧ w' = w) :=
  (rf_ok hx hl).mono fun e w' h => ⟨by rw [h.1, h2]; rfl, h.2⟩
set_option maxHeartbeats 2000000 in
theorem rcart_ok {zs : List Int} {x : Value} {w : World} (hx : IntsV w x zs) (hs : Samp zs) : Calls Tryd.prog 33 #[x] w (GivesFE w ((carN zs.sum zs.length : Rat) / (carD zs.sum zs.length : Rat))) := by
  have HS := Lib.hid hs
  have hB9 : (1 : Int) ≤ zs.sum ∧ zs.sum ≤ 64 := by
    have := sumUp_le (Nat.le_refl _) hs.2.1
    rw [sumUp_all] at this
    have := hs.1
    exact ⟨by omega, hs.2.2⟩
  have hL9 := hs.1
  have hO9 : zs.count 1 ≤ 64 := Nat.le_trans List.count_le_length hL9.2
  obtain ⟨q, hq⟩ : ∃ q : Rat, q = (carN zs.sum zs.length : Rat) / (carD zs.sum zs.length : Rat) := ⟨_, rfl⟩
  rw [← hq]
  have HV := Lib.hid hq
  clear hq
  have hw1 : IntKind.i64.wrap (2 * (zs.length : Int)) = 2 * (zs.length : Int) := wrap_in (by omega)
  have hw2 : IntKind.i64.wrap (3 * (zs.length : Int)) = 3 * (zs.length : Int) := wrap_in (by omega)
  have hw3 : IntKind.i64.wrap (1000 * zs.sum) = 1000 * zs.sum := wrap_in (by omega)
  have hp1 : 0 ≤ 1000 * zs.sum * (zs.length : Int) := Int.mul_nonneg (by omega) (by omega)
  have hp2 : 1000 * zs.sum * (zs.length : Int) ≤ 64000 * 64 := Int.mul_le_mul (by omega) (by omega) (by omega) (by omega)
  have hw4 : IntKind.i64.wrap (1000 * zs.sum * (zs.length : Int)) = carN zs.sum zs.length := wrap_in (by omega)
  have HN := Lib.hid (show -9223372036854775808 ≤ carN zs.sum zs.length ∧ carN zs.sum zs.length ≤ 9223372036854775807 from by unfold carN; omega)
  have hcases : (zs.sum < 2 * (zs.length : Int) ∧ carD zs.sum zs.length = 1214 * zs.sum - 1197 * zs.length) ∨ ((¬ zs.sum < 2 * (zs.length : Int) ∧ zs.sum < 3 * (zs.length : Int)) ∧ carD zs.sum zs.length = 1124 * zs.sum - 1016 * zs.length) ∨ ((¬ zs.sum < 2 * (zs.length : Int) ∧ ¬ zs.sum < 3 * (zs.length : Int)) ∧ carD zs.sum zs.length = 1069 * zs.sum - 843 * zs.length) := by
    unfold carD
    split
    · exact .inl ⟨by assumption, rfl⟩
    · split
      · exact .inr (.inl ⟨⟨by assumption, by assumption⟩, rfl⟩)
      · exact .inr (.inr ⟨⟨by assumption, by assumption⟩, rfl⟩)
  generalize carN zs.sum zs.length = cn at *
  generalize carD zs.sum zs.length = cd at *
  clear hp1 hp2
  rcases hcases with ⟨hc1, hcd⟩ | ⟨⟨hc1, hc2⟩, hcd⟩ | ⟨⟨hc1, hc2⟩, hcd⟩
  · have hw5 : IntKind.i64.wrap (1214 * zs.sum) = 1214 * zs.sum := wrap_in (by omega)
    have hw6 : IntKind.i64.wrap (1197 * (zs.length : Int)) = 1197 * (zs.length : Int) := wrap_in (by omega)
    have hw7 : IntKind.i64.wrap (1214 * zs.sum - 1197 * (zs.length : Int)) = cd := by rw [wrap_in (by omega)]; exact hcd.symm
    have HD := Lib.hid (show -9223372036854775808 ≤ cd ∧ cd ≤ 9223372036854775807 from by omega)
    clear hcd
    obtain ⟨A, c, rfl, _, _, _⟩ := id hx
    go_enter Tryd.func33, Tryd.ntmps33
    go_upto_region 1 with (fail)
    have hF0 := FBox.new w (.bool false) (.slice none 0 0) (.slice none 0 0) 32
    have x0 : Ext w (w.alloc (.cells #[.bool false, .slice none 0 0, .slice none 0 0] 32)) := ext_alloc (Below.refl _ _) _
    have hs0 : w.heap.size + 1 ≤ (w.alloc (.cells #[.bool false, .slice none 0 0, .slice none 0 0] 32)).heap.size := by simp
    generalize w.alloc (.cells #[.bool false, .slice none 0 0, .slice none 0 0] 32) = W0 at *
    have HF := Lib.hid (fun (w' : World) (h : Ext W0 w') => hF0.below h)
    have HE := Lib.hid x0
    have f0 : Ext W0 W0 := Below.refl _ _
    obtain ⟨r0, r1, r2, g0, g1, g2⟩ := hF0
    clear x0
    have HX := Lib.hid (hx.below HE.out)
    clear hs hx
    go_wp2_with (first
      | (go_at_call 40; (with_reducible refine (rvalid_t HX.out HS.out).mono ?_); rintro e w1 ⟨rfl, rfl⟩)
      | (go_at_call 43; (with_reducible refine (rtotal_ok HX.out HS.out).mono ?_); rintro e w1 ⟨rfl, rfl⟩)
      | (go_at_call 42; (with_reducible refine (rfof_n HN.out HD.out).mono ?_); rintro e s3 ⟨b3, A3, k3, c3, B3, l3, d3, rfl, h3, z3, n3, m3⟩; obtain ⟨r0, r1, r2, g0, g1, g2⟩ := HF.out _ z3))
    all_goals
      obtain ⟨q0, q1, q2⟩ := set3 r0 r1 r2 (.bool b3) (.slice A3 k3 c3) (.slice B3 l3 d3)
      refine bodyPost_ret (v := .tuple #[.agg #[.bool b3, .slice A3 k3 c3, .slice B3 l3 d3], .int .i64 0]) (by simp [results, Tryd.results33, go_sem, q0, q1, q2]) rfl ?_
      exact GivesFE.box (HE.out.trans z3) (by rw [HV.out]; exact h3) (n3.mono (by omega)) (m3.mono (by omega)) (Nat.le_refl _)
  · have hw5 : IntKind.i64.wrap (1124 * zs.sum) = 1124 * zs.sum := wrap_in (by omega)
    have hw6 : IntKind.i64.wrap (1016 * (zs.length : Int)) = 1016 * (zs.length : Int) := wrap_in (by omega)
    have hw7 : IntKind.i64.wrap (1124 * zs.sum - 1016 * (zs.length : Int)) = cd := by rw [wrap_in (by omega)]; exact hcd.symm
    have HD := Lib.hid (show -9223372036854775808 ≤ cd ∧ cd ≤ 9223372036854775807 from by omega)
    clear hcd
    obtain ⟨A, c, rfl, _, _, _⟩ := id hx
    go_enter Tryd.func33, Tryd.ntmps33
    go_upto_region 1 with (fail)
    have hF0 := FBox.new w (.bool false) (.slice none 0 0) (.slice none 0 0) 32
    have x0 : Ext w (w.alloc (.cells #[.bool false, .slice none 0 0, .slice none 0 0] 32)) := ext_alloc (Below.refl _ _) _
    have hs0 : w.heap.size + 1 ≤ (w.alloc (.cells #[.bool false, .slice none 0 0, .slice none 0 0] 32)).heap.size := by simp
    generalize w.alloc (.cells #[.bool false, .slice none 0 0, .slice none 0 0] 32) = W0 at *
    have HF := Lib.hid (fun (w' : World) (h : Ext W0 w') => hF0.below h)
    have HE := Lib.hid x0
    have f0 : Ext W0 W0 := Below.refl _ _
    obtain ⟨r0, r1, r2, g0, g1, g2⟩ := hF0
    clear x0
    have HX := Lib.hid (hx.below HE.out)
    clear hs hx
    go_wp2_with (first
      | (go_at_call 40; (with_reducible refine (rvalid_t HX.out HS.out).mono ?_); rintro e w1 ⟨rfl, rfl⟩)
      | (go_at_call 43; (with_reducible refine (rtotal_ok HX.out HS.out).mono ?_); rintro e w1 ⟨rfl, rfl⟩)
      | (go_at_call 42; (with_reducible refine (rfof_n HN.out HD.out).mono ?_); rintro e s3 ⟨b3, A3, k3, c3, B3, l3, d3, rfl, h3, z3, n3, m3⟩; obtain ⟨r0, r1, r2, g0, g1, g2⟩ := HF.out _ z3))
    all_goals
      obtain ⟨q0, q1, q2⟩ := set3 r0 r1 r2 (.bool b3) (.slice A3 k3 c3) (.slice B3 l3 d3)
      refine bodyPost_ret (v := .tuple #[.agg #[.bool b3, .slice A3 k3 c3, .slice B3 l3 d3], .int .i64 0]) (by simp [results, Tryd.results33, go_sem, q0, q1, q2]) rfl ?_
      exact GivesFE.box (HE.out.trans z3) (by rw [HV.out]; exact h3) (n3.mono (by omega)) (m3.mono (by omega)) (Nat.le_refl _)
  · have hw5 : IntKind.i64.wrap (1069 * zs.sum) = 1069 * zs.sum := wrap_in (by omega)
    have hw6 : IntKind.i64.wrap (843 * (zs.length : Int)) = 843 * (zs.length : Int) := wrap_in (by omega)
    have hw7 : IntKind.i64.wrap (1069 * zs.sum - 843 * (zs.length : Int)) = cd := by rw [wrap_in (by omega)]; exact hcd.symm
    have HD := Lib.hid (show -9223372036854775808 ≤ cd ∧ cd ≤ 9223372036854775807 from by omega)
    clear hcd
    obtain ⟨A, c, rfl, _, _, _⟩ := id hx
    go_enter Tryd.func33, Tryd.ntmps33
    go_upto_region 1 with (fail)
    have hF0 := FBox.new w (.bool false) (.slice none 0 0) (.slice none 0 0) 32
    have x0 : Ext w (w.alloc (.cells #[.bool false, .slice none 0 0, .slice none 0 0] 32)) := ext_alloc (Below.refl _ _) _
    have hs0 : w.heap.size + 1 ≤ (w.alloc (.cells #[.bool false, .slice none 0 0, .slice none 0 0] 32)).heap.size := by simp
    generalize w.alloc (.cells #[.bool false, .slice none 0 0, .slice none 0 0] 32) = W0 at *
    have HF := Lib.hid (fun (w' : World) (h : Ext W0 w') => hF0.below h)
    have HE := Lib.hid x0
    have f0 : Ext W0 W0 := Below.refl _ _
    obtain ⟨r0, r1, r2, g0, g1, g2⟩ := hF0
    clear x0
    have HX := Lib.hid (hx.below HE.out)
    clear hs hx
    go_wp2_with (first
      | (go_at_call 40; (with_reducible refine (rvalid_t HX.out HS.out).mono ?_); rintro e w1 ⟨rfl, rfl⟩)
      | (go_at_call 43; (with_reducible refine (rtotal_ok HX.out HS.out).mono ?_); rintro e w1 ⟨rfl, rfl⟩)
      | (go_at_call 42; (with_reducible refine (rfof_n HN.out HD.out).mono ?_); rintro e s3 ⟨b3, A3, k3, c3, B3, l3, d3, rfl, h3, z3, n3, m3⟩; obtain ⟨r0, r1, r2, g0, g1, g2⟩ := HF.out _ z3))
    all_goals
      obtain ⟨q0, q1, q2⟩ := set3 r0 r1 r2 (.bool b3) (.slice A3 k3 c3) (.slice B3 l3 d3)
      refine bodyPost_ret (v := .tuple #[.agg #[.bool b3, .slice A3 k3 c3, .slice B3 l3 d3], .int .i64 0]) (by simp [results, Tryd.results33, go_sem, q0, q1, q2]) rfl ?_
      exact GivesFE.box (HE.out.trans z3) (by rw [HV.out]; exact h3) (n3.mono (by omega)) (m3.mono (by omega)) (Nat.le_refl _)

set_option maxHeartbeats 4000000 in
theorem rjack_ok {zs : List Int} {x : Value} {w : World} (hx : IntsV w x zs) (hs : Samp zs) : Calls Tryd.prog 31 #[x] w (GivesFE w (((zs.length : Int) : Rat) / ((1 : Int) : Rat) + (((zs.count 1 : Int) * (zs.sum - 1) : Int) : Rat) / (zs.sum : Rat))) := by
  have HS := Lib.hid hs
  have hB9 : (1 : Int) ≤ zs.sum ∧ zs.sum ≤ 64 := by
    have := sumUp_le (Nat.le_refl _) hs.2.1
    rw [sumUp_all] at this
    have := hs.1
    exact ⟨by omega, hs.2.2⟩
  have hL9 := hs.1
  have hO9 : zs.count 1 ≤ 64 := Nat.le_trans List.count_le_length hL9.2
  obtain ⟨q, hq⟩ : ∃ q : Rat, q = (((zs.length : Int) : Rat) / ((1 : Int) : Rat) + (((zs.count 1 : Int) * (zs.sum - 1) : Int) : Rat) / (zs.sum : Rat)) := ⟨_, rfl⟩
  rw [← hq]
  have HV := Lib.hid hq
  clear hq
  have hp3 : 0 ≤ (zs.count 1 : Int) * (zs.sum - 1) := Int.mul_nonneg (by omega) (by omega)
  have hp4 : (zs.count 1 : Int) * (zs.sum - 1) ≤ 64 * 64 := Int.mul_le_mul (by omega) (by omega) (by omega) (by omega)
  have hw2 : IntKind.i64.wrap (zs.sum - 1) = zs.sum - 1 := wrap_in (by omega)
  have hw3 : IntKind.i64.wrap ((zs.count 1 : Int) * (zs.sum - 1)) = (zs.count 1 : Int) * (zs.sum - 1) := wrap_in (by omega)
  have HQ := Lib.hid (show (-9223372036854775808 ≤ (zs.count 1 : Int) * (zs.sum - 1) ∧ (zs.count 1 : Int) * (zs.sum - 1) ≤ 9223372036854775807) ∧ (-9223372036854775808 ≤ zs.sum ∧ zs.sum ≤ 9223372036854775807) from by omega)
  have HL := Lib.hid (show (-9223372036854775808 ≤ (zs.length : Int) ∧ (zs.length : Int) ≤ 9223372036854775807) ∧ (-9223372036854775808 ≤ (1 : Int) ∧ (1 : Int) ≤ 9223372036854775807) from by omega)
  have HFL := Lib.hid (fb_i64 HL.out.1 HL.out.2)
  have HFM := Lib.hid (fb_i64 HQ.out.1 HQ.out.2)
  clear hp3 hp4
  obtain ⟨A, c, rfl, _, _, _⟩ := id hx
  go_enter Tryd.func31, Tryd.ntmps31
  go_upto_region 1 with (fail)
  have hF0 := FBox.new w (.bool false) (.slice none 0 0) (.slice none 0 0) 32
  have x0 : Ext w (w.alloc (.cells #[.bool false, .slice none 0 0, .slice none 0 0] 32)) := ext_alloc (Below.refl _ _) _
  have hs0 : w.heap.size + 1 ≤ (w.alloc (.cells #[.bool false, .slice none 0 0, .slice none 0 0] 32)).heap.size := by simp
  generalize w.alloc (.cells #[.bool false, .slice none 0 0, .slice none 0 0] 32) = W0 at *
  have HF := Lib.hid (fun (w' : World) (h : Ext W0 w') => hF0.below h)
  have HE := Lib.hid x0
  have f0 : Ext W0 W0 := Below.refl _ _
  obtain ⟨r0, r1, r2, g0, g1, g2⟩ := hF0
  clear x0
  have HX := Lib.hid (hx.below HE.out)
  clear hs hx
  go_wp2_with (first
    | (go_at_call 40; (with_reducible refine (rvalid_t HX.out HS.out).mono ?_); rintro e w1 ⟨rfl, rfl⟩)
    | (go_at_call 43; (with_reducible refine (rtotal_ok HX.out HS.out).mono ?_); rintro e w1 ⟨rfl, rfl⟩)
    | (go_at_call 41; (with_reducible refine (rf_ok HX.out hL9.2).mono ?_); rintro e w1 ⟨rfl, rfl⟩)
    | (go_at_call 42; (with_reducible refine (rfof_n HL.out.1 HL.out.2).mono ?_); rintro e s2 ⟨b2, A2, k2, c2, B2, l2, d2, rfl, h2, z2, _⟩; have HH2 := Lib.hid (fun (w' : World) (h : Ext s2 w') => h2.below h); have HXs := Lib.hid (HX.out.below z2))
    | (go_at_call 41; (with_reducible refine (rf_ok HXs.out hL9.2).mono ?_); rintro e s2 ⟨rfl, rfl⟩)
    | (go_at_call 42; (with_reducible refine (rfof_n HQ.out.1 HQ.out.2).mono ?_); rintro e s4 ⟨b4, A4, k4, c4, B4, l4, d4, rfl, h4, z4, _⟩)
    | (go_at_call 53; (with_reducible refine (radd_f (FracV.any (HH2.out _ z4) HFL.out (by omega)) (FracV.any h4 HFM.out (by omega)) HFL.out HFM.out (by omega)).mono ?_); rintro e s3 ⟨b3, A3, k3, c3, B3, l3, d3, rfl, h3, z3, n3, m3⟩; obtain ⟨r0, r1, r2, g0, g1, g2⟩ := HF.out _ (z2.trans (z4.trans z3))))
  all_goals
    obtain ⟨q0, q1, q2⟩ := set3 r0 r1 r2 (.bool b3) (.slice A3 k3 c3) (.slice B3 l3 d3)
    refine bodyPost_ret (v := .tuple #[.agg #[.bool b3, .slice A3 k3 c3, .slice B3 l3 d3], .int .i64 0]) (by simp [results, Tryd.results31, go_sem, q0, q1, q2]) rfl ?_
    exact GivesFE.box (HE.out.trans (z2.trans (z4.trans z3))) (by rw [HV.out]; exact h3) (n3.mono (by have := z2.size; have := z4.size; omega)) (m3.mono (by have := z2.size; have := z4.size; omega)) (Nat.le_refl _)

set_option maxHeartbeats 4000000 in
theorem rchao_a {zs : List Int} {x : Value} {w : World} (hx : IntsV w x zs) (hs : Samp zs) (h2 : zs.count 2 = 0) : Calls Tryd.prog 29 #[x] w (GivesFE w (((zs.length : Int) : Rat) / ((1 : Int) : Rat) + chaoA (zs.count 1 : Int))) := by
  have HS := Lib.hid hs
  have hB9 : (1 : Int) ≤ zs.sum ∧ zs.sum ≤ 64 := by
    have := sumUp_le (Nat.le_refl _) hs.2.1
    rw [sumUp_all] at this
    have := hs.1
    exact ⟨by omega, hs.2.2⟩
  have hL9 := hs.1
  have hO9 : zs.count 1 ≤ 64 := Nat.le_trans List.count_le_length hL9.2
  obtain ⟨q, hq⟩ : ∃ q : Rat, q = (((zs.length : Int) : Rat) / ((1 : Int) : Rat) + chaoA (zs.count 1 : Int)) := ⟨_, rfl⟩
  rw [← hq]
  have HV := Lib.hid hq
  clear hq
  have hC9 : zs.count 2 ≤ 64 := Nat.le_trans List.count_le_length hL9.2
  have hp1 : 0 ≤ (zs.count 1 : Int) * (zs.count 1 : Int) := Int.mul_nonneg (by omega) (by omega)
  have hp2 : (zs.count 1 : Int) * (zs.count 1 : Int) ≤ 64 * 64 := Int.mul_le_mul (by omega) (by omega) (by omega) (by omega)
  have hp3 : (zs.count 1 : Int) * ((zs.count 1 : Int) - 1) = (zs.count 1 : Int) * (zs.count 1 : Int) - (zs.count 1 : Int) := by rw [Int.mul_sub, Int.mul_one]
  have hw1 : IntKind.i64.wrap ((zs.count 1 : Int) - 1) = (zs.count 1 : Int) - 1 := wrap_in (by omega)
  have hw2 : IntKind.i64.wrap ((zs.count 1 : Int) * ((zs.count 1 : Int) - 1)) = (zs.count 1 : Int) * ((zs.count 1 : Int) - 1) := wrap_in (by omega)
  have HQ := Lib.hid (show (-9223372036854775808 ≤ (zs.count 1 : Int) * ((zs.count 1 : Int) - 1) ∧ (zs.count 1 : Int) * ((zs.count 1 : Int) - 1) ≤ 9223372036854775807) ∧ (-9223372036854775808 ≤ (2 : Int) ∧ (2 : Int) ≤ 9223372036854775807) from by omega)
  have HL := Lib.hid (show (-9223372036854775808 ≤ (zs.length : Int) ∧ (zs.length : Int) ≤ 9223372036854775807) ∧ (-9223372036854775808 ≤ (1 : Int) ∧ (1 : Int) ≤ 9223372036854775807) from by omega)
  have HFL := Lib.hid (fb_i64 HL.out.1 HL.out.2)
  have HFM := Lib.hid (show FB (chaoA (zs.count 1 : Int)) 3 from fb_i64 (by omega) (by omega))
  have H2 := Lib.hid h2
  clear h2
  clear hp1 hp2 hp3
  obtain ⟨A, c, rfl, _, _, _⟩ := id hx
  go_enter Tryd.func29, Tryd.ntmps29
  go_upto_region 1 with (fail)
  have hF0 := FBox.new w (.bool false) (.slice none 0 0) (.slice none 0 0) 32
  have x0 : Ext w (w.alloc (.cells #[.bool false, .slice none 0 0, .slice none 0 0] 32)) := ext_alloc (Below.refl _ _) _
  have hs0 : w.heap.size + 1 ≤ (w.alloc (.cells #[.bool false, .slice none 0 0, .slice none 0 0] 32)).heap.size := by simp
  generalize w.alloc (.cells #[.bool false, .slice none 0 0, .slice none 0 0] 32) = W0 at *
  have HF := Lib.hid (fun (w' : World) (h : Ext W0 w') => hF0.below h)
  have HE := Lib.hid x0
  have f0 : Ext W0 W0 := Below.refl _ _
  obtain ⟨r0, r1, r2, g0, g1, g2⟩ := hF0
  clear x0
  have HX := Lib.hid (hx.below HE.out)
  clear hs hx
  go_upto_region 5 with (first
    | (go_at_call 40; (with_reducible refine (rvalid_t HX.out HS.out).mono ?_); rintro e w1 ⟨rfl, rfl⟩)
    | (go_at_call 41; (with_reducible refine (rf_z HX.out hL9.2 H2.out).mono ?_); rintro e w1 ⟨rfl, rfl⟩)
    | (go_at_call 41; (with_reducible refine (rf_ok HX.out hL9.2).mono ?_); rintro e w1 ⟨rfl, rfl⟩)
    | (go_at_call 42; (with_reducible refine (rfof_n HQ.out.1 HQ.out.2).mono ?_); rintro e w3 ⟨b3, A3, k3, c3, A3', k3', c3', rfl, h3, y3, n3, n3'⟩))
  have hlo1 : w1.heap.size ≤ w3.heap.size := y3.size
  have hlo : w.heap.size + 1 ≤ w3.heap.size := by have := y3.size; omega
  have hG3 := FBox.new w3 (.bool b3) (.slice A3 k3 c3) (.slice A3' k3' c3') 32
  have Y3 : Ext w1 (w3.alloc (.cells #[.bool b3, .slice A3 k3 c3, .slice A3' k3' c3'] 32)) := ext_alloc y3 _
  have h3 := h3.below (ext_alloc (Below.refl _ _) (.cells #[.bool b3, .slice A3 k3 c3, .slice A3' k3' c3'] 32))
  have hsz3 : w3.heap.size < (w3.alloc (.cells #[.bool b3, .slice A3 k3 c3, .slice A3' k3' c3'] 32)).heap.size := by simp
  generalize w3.alloc (.cells #[.bool b3, .slice A3 k3 c3, .slice A3' k3' c3'] 32) = W3 at *
  generalize w3.heap.size = B3 at *
  have h3 : FracV W3 b3 (.slice A3 k3 c3) (.slice A3' k3' c3') (chaoA (zs.count 1 : Int)) := h3
  have HG3 := Lib.hid (fun (w' : World) (h : Ext W3 w') => hG3.below h)
  have e3 : Ext W3 W3 := Below.refl _ _
  have HVM := Lib.hid (fun (w' : World) (h : Ext W3 w') => h3.below h)
  obtain ⟨m0, m1, m2, gm0, gm1, gm2⟩ := hG3
  clear h3
  go_upto_region 7 with (fail)
  have HC7 := Lib.hid (fun (w' : World) (h : Ext W3 w') => (⟨(HG3.out _ h).1, (HG3.out _ h).2.1, (HG3.out _ h).2.2.1⟩ : w'.cell? ⟨B3, 0, none⟩ = some (.bool b3) ∧ w'.cell? ⟨B3, 1, none⟩ = some (.slice A3 k3 c3) ∧ w'.cell? ⟨B3, 2, none⟩ = some (.slice A3' k3' c3')))
  have HCA7 := Lib.hid (fun (w' : World) (h : Ext W3 w') (x y z : Value) => (fun (k : FBox _ _ _ _ _) => (⟨k.1, k.2.1, k.2.2.1⟩ : _ ∧ _ ∧ _)) (FBox.away (b' := w.heap.size) (HG3.out _ h) (by omega) x y z))
  go_region_held3 (fun w' => w'.cell? ⟨B3, 0, none⟩ = some (.bool b3) ∧ w'.cell? ⟨B3, 1, none⟩ = some (.slice A3 k3 c3) ∧ w'.cell? ⟨B3, 2, none⟩ = some (.slice A3' k3' c3')) (first | exact HC7.out _ (by first | ((repeat first | assumption | exact Below.refl _ _ | refine ext_alloc ?_ _ | refine ext_drew ?_ | refine ext_set ?_ (by first | omega | (simp; done) | (simp; omega)) _); done) | fail) | exact HCA7.out _ f9 _ _ _)
    (first
      | (go_at_call 42; (with_reducible refine (rfof_n HL.out.1 HL.out.2).mono ?_); rintro _ s8 ⟨b8, A8, k8, c8, B8, l8, d8, rfl, h8, z8, _⟩; have f8 : Ext W3 s8 := Ext.trans (by first | ((repeat first | assumption | exact Below.refl _ _ | refine ext_alloc ?_ _ | refine ext_drew ?_ | refine ext_set ?_ (by first | omega | (simp; done) | (simp; omega)) _); done) | fail) z8)
      | (go_at_call 53; (with_reducible refine (radd_f (FracV.any h8 HFL.out (by omega)) (FracV.any (HVM.out _ (by first | ((repeat first | assumption | exact Below.refl _ _ | refine ext_alloc ?_ _ | refine ext_drew ?_ | refine ext_set ?_ (by first | omega | (simp; done) | (simp; omega)) _); done) | fail)) HFM.out (by omega)) HFL.out HFM.out (by omega)).mono ?_); rintro _ s9 ⟨b9, A9, k9, c9, B9, l9, d9, rfl, h9, z9, n9, m9⟩; have f9 : Ext W3 s9 := Ext.trans (by first | ((repeat first | assumption | exact Below.refl _ _ | refine ext_alloc ?_ _ | refine ext_drew ?_ | refine ext_set ?_ (by first | omega | (simp; done) | (simp; omega)) _); done) | fail) z9; obtain ⟨r0, r1, r2, g0, g1, g2⟩ := HF.out _ (Y3.trans f9)))
  all_goals go_wp2
  all_goals
    obtain ⟨q0, q1, q2⟩ := set3 r0 r1 r2 (.bool b9) (.slice A9 k9 c9) (.slice B9 l9 d9)
    refine bodyPost_ret (v := .tuple #[.agg #[.bool b9, .slice A9 k9 c9, .slice B9 l9 d9], .int .i64 0]) (by simp [results, Tryd.results29, go_sem, q0, q1, q2]) rfl ?_
    exact GivesFE.box (HE.out.trans (Y3.trans f9)) (by rw [HV.out]; exact h9) (n9.mono (by have := Y3.size; have := f8.size; omega)) (m9.mono (by have := Y3.size; have := f8.size; omega)) (Nat.le_refl _)

set_option maxHeartbeats 4000000 in
theorem rchao_b {zs : List Int} {x : Value} {w : World} (hx : IntsV w x zs) (hs : Samp zs) (h2 : 0 < zs.count 2) : Calls Tryd.prog 29 #[x] w (GivesFE w (((zs.length : Int) : Rat) / ((1 : Int) : Rat) + chaoB (zs.count 1 : Int) (zs.count 2 : Int))) := by
  have HS := Lib.hid hs
  have hB9 : (1 : Int) ≤ zs.sum ∧ zs.sum ≤ 64 := by
    have := sumUp_le (Nat.le_refl _) hs.2.1
    rw [sumUp_all] at this
    have := hs.1
    exact ⟨by omega, hs.2.2⟩
  have hL9 := hs.1
  have hO9 : zs.count 1 ≤ 64 := Nat.le_trans List.count_le_length hL9.2
  obtain ⟨q, hq⟩ : ∃ q : Rat, q = (((zs.length : Int) : Rat) / ((1 : Int) : Rat) + chaoB (zs.count 1 : Int) (zs.count 2 : Int)) := ⟨_, rfl⟩
  rw [← hq]
  have HV := Lib.hid hq
  clear hq
  have hC9 : zs.count 2 ≤ 64 := Nat.le_trans List.count_le_length hL9.2
  have hp1 : 0 ≤ (zs.count 1 : Int) * (zs.count 1 : Int) := Int.mul_nonneg (by omega) (by omega)
  have hp2 : (zs.count 1 : Int) * (zs.count 1 : Int) ≤ 64 * 64 := Int.mul_le_mul (by omega) (by omega) (by omega) (by omega)
  have hp3 : (zs.count 1 : Int) * ((zs.count 1 : Int) - 1) = (zs.count 1 : Int) * (zs.count 1 : Int) - (zs.count 1 : Int) := by rw [Int.mul_sub, Int.mul_one]
  have hw1 : IntKind.i64.wrap ((zs.count 1 : Int) - 1) = (zs.count 1 : Int) - 1 := wrap_in (by omega)
  have hw2 : IntKind.i64.wrap ((zs.count 1 : Int) * ((zs.count 1 : Int) - 1)) = (zs.count 1 : Int) * ((zs.count 1 : Int) - 1) := wrap_in (by omega)
  have HQ := Lib.hid (show (-9223372036854775808 ≤ (zs.count 1 : Int) * ((zs.count 1 : Int) - 1) ∧ (zs.count 1 : Int) * ((zs.count 1 : Int) - 1) ≤ 9223372036854775807) ∧ (-9223372036854775808 ≤ (2 : Int) ∧ (2 : Int) ≤ 9223372036854775807) from by omega)
  have HL := Lib.hid (show (-9223372036854775808 ≤ (zs.length : Int) ∧ (zs.length : Int) ≤ 9223372036854775807) ∧ (-9223372036854775808 ≤ (1 : Int) ∧ (1 : Int) ≤ 9223372036854775807) from by omega)
  have HFL := Lib.hid (fb_i64 HL.out.1 HL.out.2)
  have HFM := Lib.hid (show FB (chaoB (zs.count 1 : Int) (zs.count 2 : Int)) 3 from fb_i64 (by omega) (by omega))
  have hw3 : IntKind.i64.wrap ((zs.count 1 : Int) * (zs.count 1 : Int)) = (zs.count 1 : Int) * (zs.count 1 : Int) := wrap_in (by omega)
  have hw4 : IntKind.i64.wrap (2 * (zs.count 2 : Int)) = 2 * (zs.count 2 : Int) := wrap_in (by omega)
  have HR := Lib.hid (show (-9223372036854775808 ≤ (zs.count 1 : Int) * (zs.count 1 : Int) ∧ (zs.count 1 : Int) * (zs.count 1 : Int) ≤ 9223372036854775807) ∧ (-9223372036854775808 ≤ 2 * (zs.count 2 : Int) ∧ 2 * (zs.count 2 : Int) ≤ 9223372036854775807) from by omega)
  have h2' : (0 : Int) < zs.count 2 := by omega
  clear hp1 hp2 hp3
  obtain ⟨A, c, rfl, _, _, _⟩ := id hx
  go_enter Tryd.func29, Tryd.ntmps29
  go_upto_region 1 with (fail)
  have hF0 := FBox.new w (.bool false) (.slice none 0 0) (.slice none 0 0) 32
  have x0 : Ext w (w.alloc (.cells #[.bool false, .slice none 0 0, .slice none 0 0] 32)) := ext_alloc (Below.refl _ _) _
  have hs0 : w.heap.size + 1 ≤ (w.alloc (.cells #[.bool false, .slice none 0 0, .slice none 0 0] 32)).heap.size := by simp
  generalize w.alloc (.cells #[.bool false, .slice none 0 0, .slice none 0 0] 32) = W0 at *
  have HF := Lib.hid (fun (w' : World) (h : Ext W0 w') => hF0.below h)
  have HE := Lib.hid x0
  have f0 : Ext W0 W0 := Below.refl _ _
  obtain ⟨r0, r1, r2, g0, g1, g2⟩ := hF0
  clear x0
  have HX := Lib.hid (hx.below HE.out)
  clear hs hx
  go_upto_region 5 with (first
    | (go_at_call 40; (with_reducible refine (rvalid_t HX.out HS.out).mono ?_); rintro e w1 ⟨rfl, rfl⟩)
    | (go_at_call 41; (with_reducible refine (rf_ok HX.out hL9.2).mono ?_); rintro e w1 ⟨rfl, rfl⟩)
    | (go_at_call 42; (with_reducible refine (rfof_n HQ.out.1 HQ.out.2).mono ?_); rintro e w3 ⟨b3, A3, k3, c3, A3', k3', c3', rfl, h3, y3, n3, n3'⟩))
  have hlo1 : w1.heap.size ≤ w3.heap.size := y3.size
  have hlo : w.heap.size + 1 ≤ w3.heap.size := by have := y3.size; omega
  have hG3 := FBox.new w3 (.bool b3) (.slice A3 k3 c3) (.slice A3' k3' c3') 32
  have Y3 : Ext w1 (w3.alloc (.cells #[.bool b3, .slice A3 k3 c3, .slice A3' k3' c3'] 32)) := ext_alloc y3 _
  have h3 := h3.below (ext_alloc (Below.refl _ _) (.cells #[.bool b3, .slice A3 k3 c3, .slice A3' k3' c3'] 32))
  have hsz3 : w3.heap.size < (w3.alloc (.cells #[.bool b3, .slice A3 k3 c3, .slice A3' k3' c3'] 32)).heap.size := by simp
  generalize w3.alloc (.cells #[.bool b3, .slice A3 k3 c3, .slice A3' k3' c3'] 32) = W3 at *
  generalize w3.heap.size = B3 at *
  have h3 : FracV W3 b3 (.slice A3 k3 c3) (.slice A3' k3' c3') (chaoA (zs.count 1 : Int)) := h3
  have HG3 := Lib.hid (fun (w' : World) (h : Ext W3 w') => hG3.below h)
  have e3 : Ext W3 W3 := Below.refl _ _
  obtain ⟨m0, m1, m2, gm0, gm1, gm2⟩ := hG3
  clear h3
  go_upto_region 7 with (go_at_call 42; (with_reducible refine (rfof_n HR.out.1 HR.out.2).mono ?_); rintro e s6 ⟨b6, A6, k6, c6, A6', k6', c6', rfl, h6, z6, n6, m6⟩; obtain ⟨m0, m1, m2, gm0, gm1, gm2⟩ := HG3.out _ z6)
  have hG6 := (HG3.out _ z6).put (.bool b6) (.slice A6 k6 c6) (.slice A6' k6' c6')
  have h6 : FracV s6 b6 (.slice A6 k6 c6) (.slice A6' k6' c6') (chaoB (zs.count 1 : Int) (zs.count 2 : Int)) := h6
  have h6 := h6.put n6 m6 hsz3 (.bool b6) (.slice A6 k6 c6) (.slice A6' k6' c6')
  have hB3 : w1.heap.size ≤ B3 := by omega
  have Y6 : Ext w1 (((s6.setCell ⟨B3, 0, none⟩ (.bool b6)).setCell ⟨B3, 1, none⟩ (.slice A6 k6 c6)).setCell ⟨B3, 2, none⟩ (.slice A6' k6' c6')) := ext_put (Y3.trans z6) hB3 _ _ _
  generalize ((s6.setCell ⟨B3, 0, none⟩ (.bool b6)).setCell ⟨B3, 1, none⟩ (.slice A6 k6 c6)).setCell ⟨B3, 2, none⟩ (.slice A6' k6' c6') = W6 at *
  have HG6 := Lib.hid (fun (w' : World) (h : Ext W6 w') => hG6.below h)
  have e6 : Ext W6 W6 := Below.refl _ _
  have HVM := Lib.hid (fun (w' : World) (h : Ext W6 w') => h6.below h)
  obtain ⟨m0, m1, m2, gm0, gm1, gm2⟩ := hG6
  clear h6 n6 m6 Y3
  have HC7 := Lib.hid (fun (w' : World) (h : Ext W6 w') => (⟨(HG6.out _ h).1, (HG6.out _ h).2.1, (HG6.out _ h).2.2.1⟩ : w'.cell? ⟨B3, 0, none⟩ = some (.bool b6) ∧ w'.cell? ⟨B3, 1, none⟩ = some (.slice A6 k6 c6) ∧ w'.cell? ⟨B3, 2, none⟩ = some (.slice A6' k6' c6')))
  have HCA7 := Lib.hid (fun (w' : World) (h : Ext W6 w') (x y z : Value) => (fun (k : FBox _ _ _ _ _) => (⟨k.1, k.2.1, k.2.2.1⟩ : _ ∧ _ ∧ _)) (FBox.away (b' := w.heap.size) (HG6.out _ h) (by omega) x y z))
  go_region_held3 (fun w' => w'.cell? ⟨B3, 0, none⟩ = some (.bool b6) ∧ w'.cell? ⟨B3, 1, none⟩ = some (.slice A6 k6 c6) ∧ w'.cell? ⟨B3, 2, none⟩ = some (.slice A6' k6' c6')) (first | exact HC7.out _ (by first | ((repeat first | assumption | exact Below.refl _ _ | refine ext_alloc ?_ _ | refine ext_drew ?_ | refine ext_set ?_ (by first | omega | (simp; done) | (simp; omega)) _); done) | fail) | exact HCA7.out _ f9 _ _ _)
    (first
      | (go_at_call 42; (with_reducible refine (rfof_n HL.out.1 HL.out.2).mono ?_); rintro _ s8 ⟨b8, A8, k8, c8, B8, l8, d8, rfl, h8, z8, _⟩; have f8 : Ext W6 s8 := Ext.trans (by first | ((repeat first | assumption | exact Below.refl _ _ | refine ext_alloc ?_ _ | refine ext_drew ?_ | refine ext_set ?_ (by first | omega | (simp; done) | (simp; omega)) _); done) | fail) z8)
      | (go_at_call 53; (with_reducible refine (radd_f (FracV.any h8 HFL.out (by omega)) (FracV.any (HVM.out _ (by first | ((repeat first | assumption | exact Below.refl _ _ | refine ext_alloc ?_ _ | refine ext_drew ?_ | refine ext_set ?_ (by first | omega | (simp; done) | (simp; omega)) _); done) | fail)) HFM.out (by omega)) HFL.out HFM.out (by omega)).mono ?_); rintro _ s9 ⟨b9, A9, k9, c9, B9, l9, d9, rfl, h9, z9, n9, m9⟩; have f9 : Ext W6 s9 := Ext.trans (by first | ((repeat first | assumption | exact Below.refl _ _ | refine ext_alloc ?_ _ | refine ext_drew ?_ | refine ext_set ?_ (by first | omega | (simp; done) | (simp; omega)) _); done) | fail) z9; obtain ⟨r0, r1, r2, g0, g1, g2⟩ := HF.out _ (Y6.trans f9)))
  all_goals go_wp2
  all_goals
    obtain ⟨q0, q1, q2⟩ := set3 r0 r1 r2 (.bool b9) (.slice A9 k9 c9) (.slice B9 l9 d9)
    refine bodyPost_ret (v := .tuple #[.agg #[.bool b9, .slice A9 k9 c9, .slice B9 l9 d9], .int .i64 0]) (by simp [results, Tryd.results29, go_sem, q0, q1, q2]) rfl ?_
    exact GivesFE.box (HE.out.trans (Y6.trans f9)) (by rw [HV.out]; exact h9) (n9.mono (by have := Y6.size; have := f8.size; omega)) (m9.mono (by have := Y6.size; have := f8.size; omega)) (Nat.le_refl _)

theorem jack_val {l s a : Int} (hs : s ≠ 0) : ((l * s + a * (s - 1) : Int) : Rat) / (s : Rat) = (l : Rat) / ((1 : Int) : Rat) + ((a * (s - 1) : Int) : Rat) / (s : Rat) := by
  have hs' : (s : Rat) ≠ 0 := by exact_mod_cast hs
  simp only [Rat.intCast_add, Rat.intCast_mul, Rat.intCast_one, Rat.div_def]
  grind
theorem jack_any (zs : List Int) : ∃ b n d er, ∀ x w, IntsV w x zs → Calls Tryd.prog 30 #[x] w (GivesP w b n d er) ∧ Calls Tryd.prog 31 #[x] w (GivesP w b n d er) := by
  by_cases hs : Samp zs
  · have hne : zs.sum ≠ 0 := by
      have := sumUp_le (Nat.le_refl _) hs.2.1
      rw [sumUp_all] at this
      have := hs.1
      omega
    exact ⟨_, _, _, _, fun x w hx => ⟨(ejack_ok hx hs).mono fun _ _ h => h.p, (rjack_ok hx hs).mono fun _ _ h => by rw [← jack_val hne] at h; exact h.p⟩⟩
  · exact ⟨_, _, _, _, fun x w hx => ⟨(ejack_no hx hs).mono fun _ _ h => h.p, (rjack_no hx hs).mono fun _ _ h => h.p⟩⟩
theorem chao_any (zs : List Int) : ∃ b n d er, ∀ x w, IntsV w x zs → Calls Tryd.prog 28 #[x] w (GivesP w b n d er) ∧ Calls Tryd.prog 29 #[x] w (GivesP w b n d er) := by
  by_cases hs : Samp zs
  · by_cases h2 : zs.count 2 = 0
    · exact ⟨_, _, _, _, fun x w hx => ⟨(echao_a hx hs h2).mono fun _ _ h => h.p, (rchao_a hx hs h2).mono fun _ _ h => h.p⟩⟩
    · exact ⟨_, _, _, _, fun x w hx => ⟨(echao_b hx hs (Nat.pos_of_ne_zero h2)).mono fun _ _ h => h.p, (rchao_b hx hs (Nat.pos_of_ne_zero h2)).mono fun _ _ h => h.p⟩⟩
  · exact ⟨_, _, _, _, fun x w hx => ⟨(echao_no hx hs).mono fun _ _ h => h.p, (rchao_no hx hs).mono fun _ _ h => h.p⟩⟩
theorem cart_any (zs : List Int) : ∃ b n d er, ∀ x w, IntsV w x zs → Calls Tryd.prog 32 #[x] w (GivesP w b n d er) ∧ Calls Tryd.prog 33 #[x] w (GivesP w b n d er) := by
  by_cases hs : Samp zs
  · exact ⟨_, _, _, _, fun x w hx => ⟨(ecart_ok hx hs).mono fun _ _ h => h.p, (rcart_ok hx hs).mono fun _ _ h => h.p⟩⟩
  · exact ⟨_, _, _, _, fun x w hx => ⟨(ecart_no hx hs).mono fun _ _ h => h.p, (rcart_no hx hs).mono fun _ _ h => h.p⟩⟩

end Go.Proofs.YtkjcbfaimonaoaaDoor
