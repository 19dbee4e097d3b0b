/- The walk of WholeOccupancy. -/
import Derived.Test.YtglphodaoafdmaaDoorTopA
import Derived.Test.YtglphodaoafdmaaDoorLwOSteps
import Derived.Test.YtglphodaoafdmaaDoorLwOSums
import Derived.Test.YtglphodaoafdmaaDoorLwOSplits
import Derived.Test.YtglphodaoafdmaaDoorHold2
set_option linter.unusedVariables false
set_option linter.unusedSimpArgs false
set_option maxRecDepth 100000
namespace Go.Proofs.YtglphodaoafdmaaDoor
open Go.RowKit Num

/-- The surjections onto all sets of m dies. -/
def sjs (K D m : Nat) : Nat := chs D m * (stir K m * fact m)
theorem sjs_sum (K D : Nat) : sumTo (sjs K D) (K + 1) = D ^ K := by
  rw [← occ_sum]
  exact sumTo_congr fun k _ => occ_sets K D k
theorem sjs_len {K D m : Nat} (hK : K ≤ 30) (hD : D ≤ 60) : (limbsOf (sumTo (sjs K D) m)).length ≤ 32 := by
  have h1 : sumTo (sjs K D) m ≤ D ^ K := by
    have e : sumTo (sjs K D) m = sumTo (occ K D) m := sumTo_congr fun k _ => occ_sets K D k
    rw [e]
    exact most_le
  have h2 := limbsOf_length_mono h1
  have h3 : (limbsOf (D ^ K)).length ≤ K + 1 := len_of_le_pow (Nat.le_refl _) (by omega)
  omega
theorem OutB.mono_ {W : World} {b B n : Nat} {wr w' : World} (h : OutB W b B n wr) (hE : Ext wr w') : OutB W b B n w' := by
  obtain ⟨A, m, c, hc, hf, hC, hx, hN⟩ := h
  have hl := World.block_lt_of_cell? _ _ hc
  exact ⟨A, m, c, (hE.cell (p := ⟨b, 0, none⟩) hl).trans hc, (hE.frozen (p := ⟨b, 0, none⟩) hl).trans hf, hC.below hE, hx.trans hE, hN⟩
theorem text_one : (ByteArray.mk (ftxt 1 1).toArray) = ⟨#[49]⟩ := by simp [ftxt, Lib.decDigits]
theorem m11 : (1 : Rat).num = 1 ∧ (1 : Rat).den = 1 := by decide
theorem fresh_zero {K D : Nat} (hD : 0 < D) : pchI (K + 1) D 0 = pchI K D 0 * (((0 : Int) : Rat) / ((D : Int) : Rat)) + ((0 : Int) : Rat) / ((1 : Int) : Rat) := by
  have h := steps_val (n := K) hD 0
  have h1 : pchI K D (0 - 1) = 0 := by unfold pchI; rw [if_pos (by omega)]
  rw [h, h1, zero_first]
  grind
theorem fresh_succ {K D j : Nat} (hD : 0 < D) : pchI (K + 1) D ((j : Int) + 1) = pchI K D ((j : Int) + 1) * ((((j : Int) + 1 : Int) : Rat) / ((D : Int) : Rat)) + pchI K D (j : Int) * ((((D : Int) - ((j : Int) + 1) + 1 : Int) : Rat) / ((D : Int) : Rat)) := by
  have h := steps_val (n := K) hD ((j : Int) + 1)
  rw [show (j : Int) + 1 - 1 = (j : Int) from by omega] at h
  rw [h]
  grind

set_option maxHeartbeats 16000000 in
theorem law_WOcc {n D d : Nat} {w : World} (hn : n ≤ 255) (hD : D ≤ 255) (hd : d ≤ 255) (ht : Tab10 w) :
    Calls Tryd.prog 3 #[.int .u8 n, .int .u8 D, .int .u8 d] w (fun e w' => e = .returned (.bool true) ∧ Ext w w') := by
  have HT := Lib.hid (fun (w' : World) (h : Ext w w') => ht.ext h)
  obtain ⟨K, hK⟩ : ∃ K : Nat, K = n % 13 := ⟨_, rfl⟩
  obtain ⟨DD, hDD⟩ : ∃ DD : Nat, DD = 1 + D % 20 := ⟨_, rfl⟩
  obtain ⟨I, hI⟩ : ∃ I : Nat, I = d % 15 := ⟨_, rfl⟩
  have hK12 : K ≤ 12 := by omega
  have hD1 : 1 ≤ DD := by omega
  have hD20 : DD ≤ 20 := by omega
  have hI14 : I ≤ 14 := by omega
  have hv1 : IntKind.i64.wrap (n : Int) = (n : Int) := wrap_in (by omega)
  have hv2 : IntKind.i64.wrap (D : Int) = (D : Int) := wrap_in (by omega)
  have hv3 : IntKind.i64.wrap (d : Int) = (d : Int) := wrap_in (by omega)
  have hr1 : (n : Int) % 13 = (K : Int) := by omega
  have hr3 : (d : Int) % 15 = (I : Int) := by omega
  have hr1' : (n : Int).tmod 13 = (K : Int) := by rw [Int.tmod_eq_emod_of_nonneg (by omega)]; omega
  have hr3' : (d : Int).tmod 15 = (I : Int) := by rw [Int.tmod_eq_emod_of_nonneg (by omega)]; omega
  have hr2' : (D : Int).tmod 20 = (DD : Int) - 1 := by rw [Int.tmod_eq_emod_of_nonneg (by omega)]; omega
  have hr2 : (D : Int) % 20 = (DD : Int) - 1 := by omega
  have hw1 : IntKind.i64.wrap (1 + ((DD : Int) - 1)) = (DD : Int) := by rw [wrap_in (by omega)]; omega
  have hw2 : IntKind.i64.wrap ((K : Int) + 1) = (K : Int) + 1 := wrap_in (by omega)
  have hw3 : IntKind.i64.wrap ((K : Int) + 2) = (K : Int) + 2 := wrap_in (by omega)
  have hw4 : IntKind.i64.wrap ((I : Int) + 1) = (I : Int) + 1 := wrap_in (by omega)
  have hw5 : IntKind.u64.wrap (DD : Int) = (DD : Int) := by rw [IntKind.wrap_u64]; omega
  clear hK hDD hI
  go_enter Tryd.func3, Tryd.ntmps3
  go_wp2_with fail
  refine (topawake ht).mono ?_
  rintro e W0 ⟨rfl, V0⟩
  clear ht
  go_wp2_with fail
  refine (odist_ok (n := K) (D := DD) (by omega) hD1 (by omega)).mono ?_
  rintro e w1 ⟨A1, c1, rfl, hl1, y1, n1⟩
  rw [uptoQ_length] at hl1 n1 ⊢
  have HL1 := Lib.hid (fun (w' : World) (h : Ext w1 w') => hl1.ext h)
  clear hl1 n1
  have HC2 := Lib.hid (fun w => (show Calls Tryd.prog 13 #[.int .i64 ((K : Int) + 1), .int .i64 DD] w (GivesFL w (uptoQ (fun d => pchI (K + 1) DD d) (K + 2))) from by
    have h := odist_ok (n := K + 1) (D := DD) (w := w) (by omega) hD1 (by omega)
    rw [show ((K + 1 : Nat) : Int) = (K : Int) + 1 from by omega] at h
    exact h))
  have HC4 := Lib.hid (fun w (ht : Tab10 w) => (show Calls Tryd.prog 15 #[.int .i64 K, .int .i64 DD, .int .i64 ((I : Int) + 1)] w (GivesFE w (leastQ K DD ((I + 1 : Nat) : Int))) from by
    have h := oatleast_ok (n := K) (D := DD) (d := ((I + 1 : Nat) : Int)) (w := w) (by omega) hD1 (by omega) (by omega) ht
    rw [show ((I + 1 : Nat) : Int) = (I : Int) + 1 from by omega] at h ⊢
    exact h))
  have HFm := Lib.hid (mostQ_fb (n := K) (D := DD) (d := (I : Int)) (by omega) (by omega))
  have HFl := Lib.hid (leastQ_fb (n := K) (D := DD) (d := ((I + 1 : Nat) : Int)) (by omega) (by omega))
  have HFs := Lib.hid (show FB (mostQ K DD (I : Int) + leastQ K DD ((I + 1 : Nat) : Int)) 81 from FB.add HFm.out HFl.out (by omega))
  have HV1 := Lib.hid (show mostQ K DD (I : Int) + leastQ K DD ((I + 1 : Nat) : Int) = 1 from by
    have h := (cmpQ_zero _ _).1 (splits_one (n := K) (D := DD) (j := I + 1) (d := (I : Int)) (by omega) (by omega))
    rw [h]
    decide +kernel)
  have HFP := Lib.hid (fun k => pchI_small (n := K) (D := DD) (by omega) (by omega) k)
  have HFN := Lib.hid (fun k => pchI_small (n := K + 1) (D := DD) (by omega) (by omega) k)
  have HSUM := Lib.hid (show sumQ (fun d => pchI K DD d) (K + 1) = 1 from by
    rw [sumQ_congr (g := pch K DD) fun k _ => pchI_nat K DD k, pch_sum (by omega) (Nat.le_refl _)])
  go_wp2_with fail
  refine (HC2.out _).mono ?_
  rintro e w2 ⟨A2, c2, rfl, hl2, y2, n2⟩
  rw [uptoQ_length] at hl2 n2 ⊢
  have HL2 := Lib.hid (fun (w' : World) (h : Ext w2 w') => hl2.ext h)
  clear hl2 n2
  have y12 := y1.trans y2
  go_wp2_with fail
  refine (oatmost_ok (n := K) (D := DD) (d := (I : Int)) (by omega) hD1 (by omega) (by omega) (HT.out _ (V0.trans y12))).mono ?_
  rintro e w3 ⟨b3, A3, k3, c3, A3', k3', c3', rfl, h3, y3, n3, n3'⟩
  clear n3 n3'
  go_upto_region 9 with (fail)
  have hG3 := FBox.new w3 (.bool b3) (.slice A3 k3 c3) (.slice A3' k3' c3') 31
  have Y3 : Ext w2 (w3.alloc (.cells #[.bool b3, .slice A3 k3 c3, .slice A3' k3' c3'] 31)) := ext_alloc y3 _
  have h3 := h3.below (ext_alloc (Below.refl _ _) (.cells #[.bool b3, .slice A3 k3 c3, .slice A3' k3' c3'] 31))
  have hsz3 : w3.heap.size < (w3.alloc (.cells #[.bool b3, .slice A3 k3 c3, .slice A3' k3' c3'] 31)).heap.size := by simp
  generalize w3.alloc (.cells #[.bool b3, .slice A3 k3 c3, .slice A3' k3' c3'] 31) = W3 at *
  generalize w3.heap.size = B3 at *
  have HG3 := Lib.hid (fun (w' : World) (h : Ext W3 w') => hG3.below h)
  have HP3 := Lib.hid (fun (w' : World) (h : Ext W3 w') => FracV.any (h3.below h) (HFm.out) (by omega))
  have HB3 := Lib.hid (fun (w' : World) (h : Ext W3 w') => h3.below h)
  clear hG3 h3 y3 hsz3
  go_wp2_with fail
  refine (HC4.out _ (HT.out _ (V0.trans (y12.trans Y3)))).mono ?_
  rintro e w4 ⟨b4, A4, k4, c4, A4', k4', c4', rfl, h4, y4, n4, n4'⟩
  clear n4 n4'
  go_upto_region 10 with (fail)
  have hG4 := FBox.new w4 (.bool b4) (.slice A4 k4 c4) (.slice A4' k4' c4') 31
  have Y4 : Ext W3 (w4.alloc (.cells #[.bool b4, .slice A4 k4 c4, .slice A4' k4' c4'] 31)) := ext_alloc y4 _
  have h4 := h4.below (ext_alloc (Below.refl _ _) (.cells #[.bool b4, .slice A4 k4 c4, .slice A4' k4' c4'] 31))
  have hsz4 : w4.heap.size < (w4.alloc (.cells #[.bool b4, .slice A4 k4 c4, .slice A4' k4' c4'] 31)).heap.size := by simp
  generalize w4.alloc (.cells #[.bool b4, .slice A4 k4 c4, .slice A4' k4' c4'] 31) = W4 at *
  generalize w4.heap.size = B4 at *
  have HG4 := Lib.hid (fun (w' : World) (h : Ext W4 w') => hG4.below h)
  have HP4 := Lib.hid (fun (w' : World) (h : Ext W4 w') => FracV.any (h4.below h) (HFl.out) (by omega))
  have HB4 := Lib.hid (fun (w' : World) (h : Ext W4 w') => h4.below h)
  clear hG4 h4 y4 hsz4
  go_wp2_with fail
  refine (of_n (n := DD) (by omega)).mono ?_
  rintro e w5 ⟨A5, k5, c5, rfl, h5, y5, n5⟩
  have hN5 := h5.nat (fit_small (by omega))
  clear n5
  go_wp2_with fail
  refine (pow_n (N := K) hN5 (by omega) (by omega) (fun w' h => digits_small h (by omega))).mono ?_
  rintro e w6 ⟨A6, k6, c6, rfl, h6, y6, n6⟩
  clear n6 hN5 h5
  have y6 := y5.trans y6
  go_upto_region 11 with (fail)
  have hB6 : (w6.alloc (.cells #[.slice A6 k6 c6] 29)).cell? ⟨w6.heap.size, 0, none⟩ = some (.slice A6 k6 c6) := by simp [go_sem]
  have Y6 : Ext W4 (w6.alloc (.cells #[.slice A6 k6 c6] 29)) := ext_alloc y6 _
  have h6 := h6.below (ext_alloc (Below.refl _ _) (.cells #[.slice A6 k6 c6] 29))
  have hsz6 : w6.heap.size < (w6.alloc (.cells #[.slice A6 k6 c6] 29)).heap.size := by simp
  have hlo6 : W4.heap.size ≤ w6.heap.size := y6.size
  generalize w6.alloc (.cells #[.slice A6 k6 c6] 29) = W6 at *
  generalize w6.heap.size = B6 at *
  have HB6 := Lib.hid (fun (w' : World) (h : Ext W6 w') => ((h.cell (p := ⟨B6, 0, none⟩) (World.block_lt_of_cell? _ _ hB6)).trans hB6 : w'.cell? ⟨B6, 0, none⟩ = some (.slice A6 k6 c6)))
  clear hB6 y6
  have HLA := Lib.hid (all_small (n := K) (D := DD) (by omega) (by omega))
  have HNA := Lib.hid (fun (w' : World) (h : Ext W6 w') => NatV.below (h6.nat (by have := HLA.out; unfold Fit; omega)) h)
  clear h6
  go_wp2_with fail
  refine (of_n (n := 0) (by omega)).mono ?_
  rintro e w7 ⟨A7, k7, c7, rfl, h7, y7, n7⟩
  have hO : OutB W6 w7.heap.size W6.heap.size 0 (w7.alloc (.cells #[.slice A7 k7 c7] 29)) := ⟨A7, k7, c7, by simp [go_sem], by simp [go_sem], h7.alloc _, ext_alloc y7 _, n7⟩
  have hlo : W6.heap.size ≤ w7.heap.size := y7.size
  clear h7 y7 n7
  go_wp2
  generalize w7.alloc (.cells #[.slice A7 k7 c7] 29) = W7 at *
  generalize w7.heap.size = ba at *
  have E4 : Ext W4 W6 := Y6
  have E3 : Ext W3 W6 := Y4.trans E4
  have E2 : Ext w2 W6 := Y3.trans E3
  have E1 : Ext w1 W6 := y2.trans E2
  go_loopw [21] (fun iv wr => ∃ m : Nat, m ≤ K + 1 ∧ iv = .int .i64 m ∧ OutB W6 ba W6.heap.size (sumTo (sjs K DD) m) wr) (fun iv _ => K + 1 - (intOf iv).toNat)
  case atStart => exact ⟨0, Nat.zero_le _, rfl, hO⟩
  case round =>
    clear hO
    obtain ⟨m, hm, rfl, ⟨MA, mk, ml, hc, hf, hC, hx, hN⟩⟩ := hrel
    by_cases hmk : m < K + 1
    · have hb1 : (m : Int) ≤ (K : Int) := by omega
      have hb2 : (0 : Int) ≤ (m : Int) := by omega
      have hb3 : (m : Int) < (K : Int) + 1 := by omega
      have hb4 : (m : Int) < (K : Int) + 2 := by omega
      have hlx : ba < wr.heap.size := World.block_lt_of_cell? _ _ hc
      have HCC := Lib.hid (fun (w' : World) (h : Ext wr w') => (⟨(h.cell (p := ⟨ba, 0, none⟩) hlx).trans hc, (h.frozen (p := ⟨ba, 0, none⟩) hlx).trans hf⟩ : w'.cell? ⟨ba, 0, none⟩ = some (.slice MA mk ml) ∧ w'.frozen? ⟨ba, 0, none⟩ = false))
      have HSL := Lib.hid (sjs_len (K := K) (D := DD) (m := m) (by omega) (by omega))
      have HNW := Lib.hid (fun (w' : World) (h : Ext wr w') => (CanV.nat hC (by unfold Fit; have := HSL.out; omega)).below h)
      have HB := Lib.hid (fun w => show Calls Tryd.prog 18 #[.int .i64 DD, .int .i64 m] w (GivesT w (chs DD m) 0) from by
        have h := cbin_ok (n := (DD : Int)) (k := (m : Int)) (w := w) (by omega) (by omega)
        rw [Int.toNat_natCast, binI_nat] at h
        exact h)
      have HB1 := Lib.hid (chs_small (D := DD) (d := m) (by omega))
      have HB2 := Lib.hid (onto_small (n := K) (d := m) (by omega) (by omega))
      clear hc hf hC
      go_wp2_with fail
      refine (HB.out _).mono ?_
      rintro e w8 ⟨A8, k8, c8, rfl, h8, y8, n8⟩
      clear n8
      go_upto_region 18 with (fail)
      have hB8 : (w8.alloc (.cells #[.slice A8 k8 c8] 29)).cell? ⟨w8.heap.size, 0, none⟩ = some (.slice A8 k8 c8) := by simp [go_sem]
      have Y8 : Ext wr (w8.alloc (.cells #[.slice A8 k8 c8] 29)) := ext_alloc y8 _
      have h8 := h8.below (ext_alloc (Below.refl _ _) (.cells #[.slice A8 k8 c8] 29))
      have hsz8 : w8.heap.size < (w8.alloc (.cells #[.slice A8 k8 c8] 29)).heap.size := by simp
      have hlo8 : wr.heap.size ≤ w8.heap.size := y8.size
      generalize w8.alloc (.cells #[.slice A8 k8 c8] 29) = W8 at *
      generalize w8.heap.size = B8 at *
      have HB8 := Lib.hid (fun (w' : World) (h : Ext W8 w') => ((h.cell (p := ⟨B8, 0, none⟩) (World.block_lt_of_cell? _ _ hB8)).trans hB8 : w'.cell? ⟨B8, 0, none⟩ = some (.slice A8 k8 c8)))
      clear hB8 y8
      go_wp2_with fail
      refine (csj_in (n := K) (k := m) (by omega) (by omega)).mono ?_
      rintro e w9 ⟨A9, k9, c9, rfl, h9, y9, n9⟩
      have h8 := h8.below y9
      clear n9
      go_upto_region 21 with (fail)
      have hB9 : (w9.alloc (.cells #[.slice A9 k9 c9] 29)).cell? ⟨w9.heap.size, 0, none⟩ = some (.slice A9 k9 c9) := by simp [go_sem]
      have Y9 : Ext W8 (w9.alloc (.cells #[.slice A9 k9 c9] 29)) := ext_alloc y9 _
      have h8 := h8.below (ext_alloc (Below.refl _ _) (.cells #[.slice A9 k9 c9] 29))
      have h9 := h9.below (ext_alloc (Below.refl _ _) (.cells #[.slice A9 k9 c9] 29))
      have hsz9 : w9.heap.size < (w9.alloc (.cells #[.slice A9 k9 c9] 29)).heap.size := by simp
      have hlo9 : W8.heap.size ≤ w9.heap.size := y9.size
      generalize w9.alloc (.cells #[.slice A9 k9 c9] 29) = W9 at *
      generalize w9.heap.size = B9 at *
      have HB9 := Lib.hid (fun (w' : World) (h : Ext W9 w') => ((h.cell (p := ⟨B9, 0, none⟩) (World.block_lt_of_cell? _ _ hB9)).trans hB9 : w'.cell? ⟨B9, 0, none⟩ = some (.slice A9 k9 c9)))
      clear hB9 y9
      have HN8 := Lib.hid (fun (w' : World) (h : Ext W9 w') => NatV.below (h8.nat (by have := HB1.out; unfold Fit; omega)) h)
      have HN9 := Lib.hid (fun (w' : World) (h : Ext W9 w') => NatV.below (h9.nat (by have := HB2.out; unfold Fit; omega)) h)
      have X9 : Ext wr W9 := Y8.trans Y9
      have HS := Lib.hid (fun (w' : World) (h : Ext W9 w') => (⟨(HCC.out _ (X9.trans h)).1, HB8.out _ (Y9.trans h), HB9.out _ h⟩ : w'.cell? ⟨ba, 0, none⟩ = some (.slice MA mk ml) ∧ w'.cell? ⟨B8, 0, none⟩ = some (.slice A8 k8 c8) ∧ w'.cell? ⟨B9, 0, none⟩ = some (.slice A9 k9 c9)))
      have HPL := Lib.hid (limbsOf_length_mul (chs DD m) (stir K m * fact m))
      clear h8 h9
      refine wp_region_G (fun w' => Ext W9 w') [5] (by kernel_rfl) ?_
      have gS : Ext W9 W9.drew := (Below.refl _ _).drew
      refine wpAnyG_take 0 (v := ?_) rfl (by kernel_rfl) (by kernel_rfl) (by kernel_rfl) (by kernel_rfl) (by rfl) (by kernel_rfl) (fun _ _ _ h => h) (by rfl) (fun w' hw' => ?_) gS ?_
      rotate_left
      focus (have hh := HS.out _ hw'; go_split_ands; go_simp; (try with_reducible rfl); done)
      (try simp only [Act.put, List.setIfInBounds_toArray, List.set_cons_zero, List.set_cons_succ])
      refine wpAnyG_take 1 (v := ?_) rfl (by kernel_rfl) (by kernel_rfl) (by kernel_rfl) (by kernel_rfl) (by rfl) (by kernel_rfl) (fun _ _ _ h => h) (by rfl) (fun w' hw' => ?_) gS ?_
      rotate_left
      focus (have hh := HS.out _ hw'; go_split_ands; go_simp; (try with_reducible rfl); done)
      (try simp only [Act.put, List.setIfInBounds_toArray, List.set_cons_zero, List.set_cons_succ])
      refine wpAnyG_take 2 (v := ?_) rfl (by kernel_rfl) (by kernel_rfl) (by kernel_rfl) (by kernel_rfl) (by rfl) (by kernel_rfl) (fun _ _ _ h => h) (by rfl) (fun w' hw' => ?_) gS ?_
      rotate_left
      focus (have hh := HS.out _ hw'; go_split_ands; go_simp; (try with_reducible rfl); done)
      (try simp only [Act.put, List.setIfInBounds_toArray, List.set_cons_zero, List.set_cons_succ])
      refine wpAnyG_one 3 (by kernel_rfl) rfl (by rfl) (fun K hK => ?_)
      go_simp
      go_at_call 21
      refine (mul_n (HN8.out _ gS) (HN9.out _ gS) (by have := HB1.out; have := HB2.out; omega)).mono ?_
      rintro _ s1 ⟨A10, k10, c10, rfl, h10, z10, _⟩
      have gS : Ext W9 s1 := Ext.trans gS z10
      (try go_wp2_with fail)
      refine hK.out _ _ (fun _ => gS) ?_
      clear hK K
      (try simp only [Act.put, List.setIfInBounds_toArray, List.set_cons_zero, List.set_cons_succ])
      refine wpAnyG_one 4 (by kernel_rfl) rfl (by rfl) (fun K hK => ?_)
      go_simp
      go_at_call 20
      refine (add_n (HNW.out _ (X9.trans gS)) (CanV.nat h10 (by have := HPL.out; have := HB1.out; have := HB2.out; unfold Fit; omega)) (by have := HSL.out; omega) (by have := HPL.out; have := HB1.out; have := HB2.out; omega)).mono ?_
      rintro _ s2 ⟨A11, k11, c11, rfl, h11, z11, n11⟩
      have hg1 := gS.size
      have gS : Ext W9 s2 := Ext.trans gS z11
      obtain ⟨hc, hf⟩ := HCC.out _ (X9.trans gS)
      have hX9 := X9.size
      (try go_wp2_with fail)
      refine hK.out _ _ (fun _ => gS) ?_
      clear hK K
      (try simp only [Act.put, List.setIfInBounds_toArray, List.set_cons_zero, List.set_cons_succ])
      refine wpAnyG_one 5 (by kernel_rfl) rfl (by rfl) (fun K hK => ?_)
      go_simp
      refine hK.out _ _ (fun h => absurd h (by decide)) ?_
      clear hK K
      (try simp only [Act.put, List.setIfInBounds_toArray, List.set_cons_zero, List.set_cons_succ])
      refine wpAnyG_done (by kernel_rfl) ?_ _
      have hO := OutB.set (B := W6.heap.size) hc hf h11 (hx.trans (X9.trans gS)) n11 (by omega) (by have := hx.size; omega) hlo
      rw [show sumTo (sjs K DD) m + chs DD m * (stir K m * fact m) = sumTo (sjs K DD) (m + 1) from rfl] at hO
      clear h10 z10 h11 z11 n11 hc hf gS hg1 hX9
      generalize s2.setCell ⟨ba, 0, none⟩ (.slice A11 k11 c11) = WB at *
      have HO := Lib.hid hO
      have hxB : Ext W6 WB := hO.ext
      clear hO
      -- old
      have HLm := Lib.hid (HL1.out _ (E1.trans hxB))
      obtain ⟨b, o, neg, A12, k12, c12, A13, k13, c13, rfl, hb, e0, e1, e2, fv, _, _⟩ := HLm.out.at_ (k := m) (uptoQ_at (by omega))
      have HFV := Lib.hid (fun (w' : World) (h : Ext WB w') => FracV.any (fv.below h) (HFP.out (m : Int)) (by omega))
      have HS := Lib.hid (fun (w' : World) (h : Ext WB w') => (⟨(h.cell (p := ⟨b, o + m * 3, none⟩) hb).trans e0, (h.cell (p := ⟨b, o + m * 3 + 1, none⟩) hb).trans e1, (h.cell (p := ⟨b, o + m * 3 + 2, none⟩) hb).trans e2⟩ : w'.cell? ⟨b, o + m * 3, none⟩ = some (.bool neg) ∧ w'.cell? ⟨b, o + m * 3 + 1, none⟩ = some (.slice A12 k12 c12) ∧ w'.cell? ⟨b, o + m * 3 + 2, none⟩ = some (.slice A13 k13 c13)))
      have HF1 := Lib.hid (show FB (((m : Int) : Rat) / ((DD : Int) : Rat)) 3 from fb_i64 (by omega) (by omega))
      have HF2 := Lib.hid (FB.mul (HFP.out (m : Int)) HF1.out (by omega))
      clear fv e0 e1 e2
      go_upto_region 22 with (fail)
      go_cut [26] (fun mv wx => FBoxAt WB wx mv (pchI K DD (m : Int) * (((m : Int) : Rat) / ((DD : Int) : Rat))))
      case first =>
        refine wp_region_G (fun w' => Ext WB w') [9] (by kernel_rfl) ?_
        have gS : Ext WB WB.drew := (Below.refl _ _).drew
        refine wpAnyG_take 0 (v := ?_) rfl (by kernel_rfl) (by kernel_rfl) (by kernel_rfl) (by kernel_rfl) (by rfl) (by kernel_rfl) (fun _ _ _ h => h) (by rfl) (fun w' hw' => ?_) gS ?_
        rotate_left
        focus (go_simp; (try with_reducible rfl); done)
        (try simp only [Act.put, List.setIfInBounds_toArray, List.set_cons_zero, List.set_cons_succ])
        refine wpAnyG_take 1 (v := ?_) rfl (by kernel_rfl) (by kernel_rfl) (by kernel_rfl) (by kernel_rfl) (by rfl) (by kernel_rfl) (fun _ _ _ h => h) (by rfl) (fun w' hw' => ?_) gS ?_
        rotate_left
        focus (go_simp; (try with_reducible rfl); done)
        (try simp only [Act.put, List.setIfInBounds_toArray, List.set_cons_zero, List.set_cons_succ])
        refine wpAnyG_take 2 (v := ?_) rfl (by kernel_rfl) (by kernel_rfl) (by kernel_rfl) (by kernel_rfl) (by rfl) (by kernel_rfl) (fun _ _ _ h => h) (by rfl) (fun w' hw' => ?_) gS ?_
        rotate_left
        focus (go_simp; (try with_reducible rfl); done)
        (try simp only [Act.put, List.setIfInBounds_toArray, List.set_cons_zero, List.set_cons_succ])
        refine wpAnyG_take 3 (v := ?_) rfl (by kernel_rfl) (by kernel_rfl) (by kernel_rfl) (by kernel_rfl) (by rfl) (by kernel_rfl) (fun _ _ _ h => h) (by rfl) (fun w' hw' => ?_) gS ?_
        rotate_left
        focus (have hh := HS.out _ hw'; go_split_ands; go_simp; (try with_reducible rfl); done)
        (try simp only [Act.put, List.setIfInBounds_toArray, List.set_cons_zero, List.set_cons_succ])
        refine wpAnyG_take 4 (v := ?_) rfl (by kernel_rfl) (by kernel_rfl) (by kernel_rfl) (by kernel_rfl) (by rfl) (by kernel_rfl) (fun _ _ _ h => h) (by rfl) (fun w' hw' => ?_) gS ?_
        rotate_left
        focus (go_simp; (try with_reducible rfl); done)
        (try simp only [Act.put, List.setIfInBounds_toArray, List.set_cons_zero, List.set_cons_succ])
        refine wpAnyG_take 5 (v := ?_) rfl (by kernel_rfl) (by kernel_rfl) (by kernel_rfl) (by kernel_rfl) (by rfl) (by kernel_rfl) (fun _ _ _ h => h) (by rfl) (fun w' hw' => ?_) gS ?_
        rotate_left
        focus (go_simp; (try with_reducible rfl); done)
        (try simp only [Act.put, List.setIfInBounds_toArray, List.set_cons_zero, List.set_cons_succ])
        refine wpAnyG_two 6 8 (by kernel_rfl) rfl rfl (by rfl) (by rfl) (fun K hK => ?_) (fun K hK => ?_)
        · go_simp
          go_at_call 23
          refine (fof_n (n := (m : Int)) (d := (DD : Int)) (by omega) (by omega)).mono ?_
          rintro _ s1 ⟨b4, A4', k4', c4', B4', l4, d4, rfl, h4, z4, _⟩
          have gS : Ext WB s1 := Ext.trans gS z4
          have hgb := gS.size
          have HH4 := Lib.hid (fun (w' : World) (h : Ext s1 w') => FracV.any (h4.below h) HF1.out (by omega))
          (try go_wp2_with fail)
          refine hK.out _ _ (fun _ => gS) ?_
          clear hK K
          (try simp only [Act.put, List.setIfInBounds_toArray, List.set_cons_zero, List.set_cons_succ])
          refine wpAnyG_two 7 8 (by kernel_rfl) rfl rfl (by rfl) (by rfl) (fun K hK => ?_) (fun K hK => ?_)
          · go_simp
            go_at_call 22
            refine (mul_f (HFV.out _ gS) (HH4.out _ (Below.refl _ _)) (by omega)).mono ?_
            rintro _ s2 ⟨b6, A6', k6', c6', B6', l6, d6, rfl, h6, z6, n6, m6⟩
            have gS : Ext WB s2 := Ext.trans gS z6
            have gg := gS
            (try go_wp2_with fail)
            refine hK.out _ _ (fun _ => gS) ?_
            clear hK K
            (try simp only [Act.put, List.setIfInBounds_toArray, List.set_cons_zero, List.set_cons_succ])
            refine wpAnyG_one 8 (by kernel_rfl) rfl (by rfl) (fun K hK => ?_)
            go_simp
            have gS := ext_alloc gS (.cells #[.bool false, .slice none 0 0, .slice none 0 0] 31)
            (try go_wp2_with fail)
            refine hK.out _ _ (fun _ => gS) ?_
            clear hK K
            (try simp only [Act.put, List.setIfInBounds_toArray, List.set_cons_zero, List.set_cons_succ])
            refine wpAnyG_one 9 (by kernel_rfl) rfl (by rfl) (fun K hK => ?_)
            go_simp
            refine hK.out _ _ (fun h => absurd h (by decide)) ?_
            clear hK K
            (try simp only [Act.put, List.setIfInBounds_toArray, List.set_cons_zero, List.set_cons_succ])
            refine wpAnyG_done (by kernel_rfl) ?_ _
            go_wp2
            go_meet
            refine ⟨_, b6, A6', k6', c6', B6', l6, d6, rfl, ?_, FBox.new _ _ _ _ _, h6.below (ext_alloc (Below.refl _ _) _), ext_alloc gg _⟩
            exact gg.size
          · go_simp
            have gS := ext_alloc gS (.cells #[.bool false, .slice none 0 0, .slice none 0 0] 31)
            have dF := FBox.new s1 (.bool false) (.slice none 0 0) (.slice none 0 0) 31
            (try go_wp2_with fail)
            refine hK.out _ _ (fun _ => gS) ?_
            clear hK K
            (try simp only [Act.put, List.setIfInBounds_toArray, List.set_cons_zero, List.set_cons_succ])
            refine wpAnyG_one 7 (by kernel_rfl) rfl (by rfl) (fun K hK => ?_)
            go_simp
            go_at_call 22
            refine (mul_f (HFV.out _ gS) (HH4.out _ (ext_alloc (Below.refl _ _) _)) (by omega)).mono ?_
            rintro _ s2 ⟨b6, A6', k6', c6', B6', l6, d6, rfl, h6, z6, n6, m6⟩
            have gS : Ext WB s2 := Ext.trans gS z6
            have dF := dF.below z6
            have gg := gS
            obtain ⟨i0, i1, i2, j0, j1, j2⟩ := dF
            (try go_wp2_with fail)
            refine hK.out _ _ (fun _ => gS) ?_
            clear hK K
            (try simp only [Act.put, List.setIfInBounds_toArray, List.set_cons_zero, List.set_cons_succ])
            refine wpAnyG_one 9 (by kernel_rfl) rfl (by rfl) (fun K hK => ?_)
            go_simp
            refine hK.out _ _ (fun h => absurd h (by decide)) ?_
            clear hK K
            (try simp only [Act.put, List.setIfInBounds_toArray, List.set_cons_zero, List.set_cons_succ])
            refine wpAnyG_done (by kernel_rfl) ?_ _
            go_wp2
            go_meet
            refine ⟨_, b6, A6', k6', c6', B6', l6, d6, rfl, hgb, FBox.put ⟨i0, i1, i2, j0, j1, j2⟩ _ _ _, h6.put n6 m6 (by simp) _ _ _, ext_put gg hgb _ _ _⟩
        · go_simp
          have gS := ext_alloc gS (.cells #[.bool false, .slice none 0 0, .slice none 0 0] 31)
          have dF : FBox (WB.alloc (.cells #[.bool false, .slice none 0 0, .slice none 0 0] 31)).drew WB.heap.size (.bool false) (.slice none 0 0) (.slice none 0 0) := FBox.new WB (.bool false) (.slice none 0 0) (.slice none 0 0) 31
          (try go_wp2_with fail)
          refine hK.out _ _ (fun _ => gS) ?_
          clear hK K
          (try simp only [Act.put, List.setIfInBounds_toArray, List.set_cons_zero, List.set_cons_succ])
          refine wpAnyG_one 6 (by kernel_rfl) rfl (by rfl) (fun K hK => ?_)
          go_simp
          go_at_call 23
          refine (fof_n (n := (m : Int)) (d := (DD : Int)) (by omega) (by omega)).mono ?_
          rintro _ s1 ⟨b4, A4', k4', c4', B4', l4, d4, rfl, h4, z4, _⟩
          have hz4 := z4.size
          have gS : Ext WB s1 := Ext.trans gS z4
          have dF := dF.below z4
          have HH4 := Lib.hid (fun (w' : World) (h : Ext s1 w') => FracV.any (h4.below h) HF1.out (by omega))
          (try go_wp2_with fail)
          refine hK.out _ _ (fun _ => gS) ?_
          clear hK K
          (try simp only [Act.put, List.setIfInBounds_toArray, List.set_cons_zero, List.set_cons_succ])
          refine wpAnyG_one 7 (by kernel_rfl) rfl (by rfl) (fun K hK => ?_)
          go_simp
          go_at_call 22
          refine (mul_f (HFV.out _ gS) (HH4.out _ (Below.refl _ _)) (by omega)).mono ?_
          rintro _ s2 ⟨b6, A6', k6', c6', B6', l6, d6, rfl, h6, z6, n6, m6⟩
          have gS : Ext WB s2 := Ext.trans gS z6
          have dF := dF.below z6
          have gg := gS
          have hdl : WB.heap.size < s1.heap.size := by simp at hz4; omega
          obtain ⟨i0, i1, i2, j0, j1, j2⟩ := dF
          (try go_wp2_with fail)
          refine hK.out _ _ (fun _ => gS) ?_
          clear hK K
          (try simp only [Act.put, List.setIfInBounds_toArray, List.set_cons_zero, List.set_cons_succ])
          refine wpAnyG_one 9 (by kernel_rfl) rfl (by rfl) (fun K hK => ?_)
          go_simp
          refine hK.out _ _ (fun h => absurd h (by decide)) ?_
          clear hK K
          (try simp only [Act.put, List.setIfInBounds_toArray, List.set_cons_zero, List.set_cons_succ])
          refine wpAnyG_done (by kernel_rfl) ?_ _
          go_wp2
          go_meet
          refine ⟨_, b6, A6', k6', c6', B6', l6, d6, rfl, Nat.le_refl _, FBox.put ⟨i0, i1, i2, j0, j1, j2⟩ _ _ _, h6.put n6 m6 hdl _ _ _, ext_put gg (Nat.le_refl _) _ _ _⟩
      case rest =>
        obtain ⟨bm, bc, OA, ok, ol, OA', ok', ol', rfl, hbm, hM, vM, xM⟩ := hcut
        obtain ⟨WC, hWC⟩ : ∃ WC : World, WC = wc := ⟨_, rfl⟩
        subst hWC
        have HOB := Lib.hid (fun (w' : World) (h : Ext WC w') => hM.below h)
        obtain ⟨qo, hqo⟩ : ∃ qo : Rat, qo = pchI K DD (m : Int) * (((m : Int) : Rat) / ((DD : Int) : Rat)) := ⟨_, rfl⟩
        have HFQ := Lib.hid (show FB qo 133 from by rw [hqo]; exact HF2.out.mono (by omega))
        rw [← hqo] at vM
        have HQO := Lib.hid hqo
        have HOV := Lib.hid (fun (w' : World) (h : Ext WC w') => FracV.any (vM.below h) HFQ.out (by omega))
        have HO2 := Lib.hid (fun (w' : World) (h : Ext WC w') => HO.out.mono_ (xM.trans h))
        clear hM vM hqo
        go_wp2_with fail
        refine (fof_n (n := 0) (d := 1) (by omega) (by omega)).mono ?_
        rintro e w14 ⟨b14, A14, k14, c14, A14', k14', c14', rfl, h14, y14, n14, n14'⟩
        have hn14 : WC.heap.size ≤ w14.heap.size := y14.size
        have HNX := Lib.hid (HL2.out _ (E2.trans (hxB.trans xM)))
        obtain ⟨b2, o2, neg2, A22, k22, c22, A23, k23, c23, rfl, hb2', e0, e1, e2, fv, _, _⟩ := HNX.out.at_ (k := m) (uptoQ_at (by omega))
        obtain ⟨qn, hqn⟩ : ∃ qn : Rat, qn = pchI (K + 1) DD (m : Int) := ⟨_, rfl⟩
        have HFNN := Lib.hid (show FB qn 130 from by rw [hqn]; exact HFN.out (m : Int))
        have fv : FracV WC neg2 (.slice A22 k22 c22) (.slice A23 k23 c23) qn := by rw [hqn]; exact fv
        have HQN := Lib.hid hqn
        have HNV := Lib.hid (fun (w' : World) (h : Ext WC w') => FracV.any (fv.below h) HFNN.out (by omega))
        have HNS := Lib.hid (fun (w' : World) (h : Ext WC w') => (⟨(h.cell (p := ⟨b2, o2 + m * 3, none⟩) hb2').trans e0, (h.cell (p := ⟨b2, o2 + m * 3 + 1, none⟩) hb2').trans e1, (h.cell (p := ⟨b2, o2 + m * 3 + 2, none⟩) hb2').trans e2⟩ : w'.cell? ⟨b2, o2 + m * 3, none⟩ = some (.bool neg2) ∧ w'.cell? ⟨b2, o2 + m * 3 + 1, none⟩ = some (.slice A22 k22 c22) ∧ w'.cell? ⟨b2, o2 + m * 3 + 2, none⟩ = some (.slice A23 k23 c23)))
        clear fv e0 e1 e2 hqn
        by_cases hm0 : m = 0
        · subst hm0
          have hzk2 : (0 : Int) < (K : Int) + 2 := by omega
          go_upto_region 26 with (fail)
          obtain ⟨qf, hqf⟩ : ∃ qf : Rat, qf = ((0 : Int) : Rat) / ((1 : Int) : Rat) := ⟨_, rfl⟩
          rw [← hqf] at h14
          have hG14 := FBox.new w14 (.bool b14) (.slice A14 k14 c14) (.slice A14' k14' c14') 31
          have Y14 : Ext WC (w14.alloc (.cells #[.bool b14, .slice A14 k14 c14, .slice A14' k14' c14'] 31)) := ext_alloc y14 _
          have h14 := h14.below (ext_alloc (Below.refl _ _) (.cells #[.bool b14, .slice A14 k14 c14, .slice A14' k14' c14'] 31))
          have hsz14 : w14.heap.size < (w14.alloc (.cells #[.bool b14, .slice A14 k14 c14, .slice A14' k14' c14'] 31)).heap.size := by simp
          generalize w14.alloc (.cells #[.bool b14, .slice A14 k14 c14, .slice A14' k14' c14'] 31) = W14 at *
          generalize w14.heap.size = B14 at *
          have HFF := Lib.hid (show FB qf 3 from by rw [hqf]; exact fb_i64 (by omega) (by omega))
          have HFB2 := Lib.hid (fun (w' : World) (h : Ext W14 w') => hG14.below h)
          have HFV2 := Lib.hid (fun (w' : World) (h : Ext W14 w') => FracV.any (h14.below h) HFF.out (by omega))
          have HNS := Lib.hid (fun (w' : World) (h : Ext WC w') => (show w'.cell? ⟨b2, o2, none⟩ = some (.bool neg2) ∧ w'.cell? ⟨b2, o2 + 1, none⟩ = some (.slice A22 k22 c22) ∧ w'.cell? ⟨b2, o2 + 2, none⟩ = some (.slice A23 k23 c23) from by have hh := HNS.out w' h; simpa using hh))
          have HEQ := Lib.hid (show cmpQ qn (qo + qf) = 0 from (cmpQ_zero _ _).2 (by rw [HQN.out, HQO.out, hqf]; exact fresh_zero (by omega)))
          clear hqf
          clear hG14 h14 n14 n14' y14
          have HS := Lib.hid (fun (w' : World) (h : Ext W14 w') => And.intro (HNS.out _ (Y14.trans h)) (And.intro (And.intro (HOB.out _ (Y14.trans h)).1 (And.intro (HOB.out _ (Y14.trans h)).2.1 (HOB.out _ (Y14.trans h)).2.2.1)) (And.intro (HFB2.out _ h).1 (And.intro (HFB2.out _ h).2.1 (HFB2.out _ h).2.2.1))))
          have HFS := Lib.hid (FB.add HFQ.out HFF.out (by omega))
          refine wp_region_G (fun w' => Ext W14 w') [8] (by kernel_rfl) ?_
          have gS : Ext W14 W14.drew := (Below.refl _ _).drew
          refine wpAnyG_take 0 (v := ?_) rfl (by kernel_rfl) (by kernel_rfl) (by kernel_rfl) (by kernel_rfl) (by rfl) (by kernel_rfl) (fun _ _ _ h => h) (by rfl) (fun w' hw' => ?_) gS ?_
          rotate_left
          focus (go_simp; (try with_reducible rfl); done)
          (try simp only [Act.put, List.setIfInBounds_toArray, List.set_cons_zero, List.set_cons_succ])
          refine wpAnyG_take 1 (v := ?_) rfl (by kernel_rfl) (by kernel_rfl) (by kernel_rfl) (by kernel_rfl) (by rfl) (by kernel_rfl) (fun _ _ _ h => h) (by rfl) (fun w' hw' => ?_) gS ?_
          rotate_left
          focus (go_simp; (try with_reducible rfl); done)
          (try simp only [Act.put, List.setIfInBounds_toArray, List.set_cons_zero, List.set_cons_succ])
          refine wpAnyG_take 2 (v := ?_) rfl (by kernel_rfl) (by kernel_rfl) (by kernel_rfl) (by kernel_rfl) (by rfl) (by kernel_rfl) (fun _ _ _ h => h) (by rfl) (fun w' hw' => ?_) gS ?_
          rotate_left
          focus (go_simp; (try with_reducible rfl); done)
          (try simp only [Act.put, List.setIfInBounds_toArray, List.set_cons_zero, List.set_cons_succ])
          refine wpAnyG_take 3 (v := ?_) rfl (by kernel_rfl) (by kernel_rfl) (by kernel_rfl) (by kernel_rfl) (by rfl) (by kernel_rfl) (fun _ _ _ h => h) (by rfl) (fun w' hw' => ?_) gS ?_
          rotate_left
          focus (have hh := HS.out _ hw'; go_split_ands; go_simp; (try with_reducible rfl); done)
          (try simp only [Act.put, List.setIfInBounds_toArray, List.set_cons_zero, List.set_cons_succ])
          refine wpAnyG_take 4 (v := ?_) rfl (by kernel_rfl) (by kernel_rfl) (by kernel_rfl) (by kernel_rfl) (by rfl) (by kernel_rfl) (fun _ _ _ h => h) (by rfl) (fun w' hw' => ?_) gS ?_
          rotate_left
          focus (have hh := HS.out _ hw'; go_split_ands; go_simp; (try with_reducible rfl); done)
          (try simp only [Act.put, List.setIfInBounds_toArray, List.set_cons_zero, List.set_cons_succ])
          refine wpAnyG_take 5 (v := ?_) rfl (by kernel_rfl) (by kernel_rfl) (by kernel_rfl) (by kernel_rfl) (by rfl) (by kernel_rfl) (fun _ _ _ h => h) (by rfl) (fun w' hw' => ?_) gS ?_
          rotate_left
          focus (have hh := HS.out _ hw'; go_split_ands; go_simp; (try with_reducible rfl); done)
          (try simp only [Act.put, List.setIfInBounds_toArray, List.set_cons_zero, List.set_cons_succ])
          refine wpAnyG_one 6 (by kernel_rfl) rfl (by rfl) (fun K hK => ?_)
          go_simp
          go_at_call 25
          refine (add_f (HOV.out _ (Y14.trans gS)) (HFV2.out _ gS) HFQ.out HFF.out (by omega)).mono ?_
          rintro _ s4 ⟨b7, A7', k7', c7', B7', l7, d7, rfl, h7, z7, _⟩
          have gS : Ext W14 s4 := Ext.trans gS z7
          (try go_wp2_with fail)
          refine hK.out _ _ (fun _ => gS) ?_
          clear hK K
          (try simp only [Act.put, List.setIfInBounds_toArray, List.set_cons_zero, List.set_cons_succ])
          refine wpAnyG_one 7 (by kernel_rfl) rfl (by rfl) (fun K hK => ?_)
          go_simp
          go_at_call 24
          refine (cmp_e (HNV.out _ (Y14.trans gS)) (FracV.any h7 HFS.out (by omega)) (by omega) HEQ.out).mono ?_
          rintro _ s5 ⟨rfl, z8⟩
          have gS : Ext W14 s5 := Ext.trans gS z8
          have gg := gS
          (try go_wp2_with fail)
          refine hK.out _ _ (fun _ => gS) ?_
          clear hK K
          (try simp only [Act.put, List.setIfInBounds_toArray, List.set_cons_zero, List.set_cons_succ])
          refine wpAnyG_one 8 (by kernel_rfl) rfl (by rfl) (fun K hK => ?_)
          go_simp
          refine hK.out _ _ (fun h => absurd h (by decide)) ?_
          clear hK K
          (try simp only [Act.put, List.setIfInBounds_toArray, List.set_cons_zero, List.set_cons_succ])
          refine wpAnyG_done (by kernel_rfl) ?_ _
          have hOf := HO2.out _ (Y14.trans gg)
          go_wp2
          go_roundw
          case rel => exact ⟨1, by omega, by go_num, hOf⟩
          case measure => first | (simp [intOf]; done) | (simp [intOf]; omega)
        · obtain ⟨j, rfl⟩ : ∃ j, m = j + 1 := ⟨m - 1, by omega⟩
          have hv0 : (0 : Int) < (j : Int) + 1 := by omega
          have hv1 : IntKind.i64.wrap ((j : Int) + 1 - 1) = (j : Int) := by rw [wrap_in (by omega)]; omega
          have hv1' : IntKind.i64.wrap (j : Int) = (j : Int) := wrap_in (by omega)
          have hv2' : IntKind.i64.wrap ((DD : Int) - ((j : Int) + 1)) = (DD : Int) - ((j : Int) + 1) := wrap_in (by omega)
          have hv3' : IntKind.i64.wrap ((DD : Int) - ((j : Int) + 1) + 1) = (DD : Int) - ((j : Int) + 1) + 1 := wrap_in (by omega)
          have hj0 : (0 : Int) ≤ (j : Int) := by omega
          have hj2 : (0 : Int) ≤ (j : Int) + 1 := by omega
          have hj3 : (j : Int) + 1 < (K : Int) + 2 := by omega
          have hj1 : (j : Int) < (K : Int) + 1 := by omega
          go_upto_region 25 with (fail)
          have hG14 := FBox.new w14 (.bool b14) (.slice A14 k14 c14) (.slice A14' k14' c14') 31
          have Y14 : Ext WC (w14.alloc (.cells #[.bool b14, .slice A14 k14 c14, .slice A14' k14' c14'] 31)) := ext_alloc y14 _
          have h14 := h14.below (ext_alloc (Below.refl _ _) (.cells #[.bool b14, .slice A14 k14 c14, .slice A14' k14' c14'] 31))
          have hsz14 : w14.heap.size < (w14.alloc (.cells #[.bool b14, .slice A14 k14 c14, .slice A14' k14' c14'] 31)).heap.size := by simp
          generalize w14.alloc (.cells #[.bool b14, .slice A14 k14 c14, .slice A14' k14' c14'] 31) = W14 at *
          generalize w14.heap.size = B14 at *
          have HGP := Lib.hid (HL1.out _ (E1.trans (hxB.trans (xM.trans Y14))))
          obtain ⟨b3, o3, neg3, A32, k32, c32, A33, k33, c33, he3, hb3', e0, e1, e2, fv, _, _⟩ := HGP.out.at_ (k := j) (uptoQ_at (by omega))
          injection he3 with he3
          injection he3 with he3a he3b
          subst he3a he3b
          have HPV := Lib.hid (fun (w' : World) (h : Ext W14 w') => FracV.any (fv.below h) (HFP.out (j : Int)) (by omega))
          have HS := Lib.hid (fun (w' : World) (h : Ext W14 w') => (⟨(h.cell (p := ⟨b, o + j * 3, none⟩) hb3').trans e0, (h.cell (p := ⟨b, o + j * 3 + 1, none⟩) hb3').trans e1, (h.cell (p := ⟨b, o + j * 3 + 2, none⟩) hb3').trans e2⟩ : w'.cell? ⟨b, o + j * 3, none⟩ = some (.bool neg3) ∧ w'.cell? ⟨b, o + j * 3 + 1, none⟩ = some (.slice A32 k32 c32) ∧ w'.cell? ⟨b, o + j * 3 + 2, none⟩ = some (.slice A33 k33 c33)))
          have HF3 := Lib.hid (show FB ((((DD : Int) - ((j : Int) + 1) + 1 : Int) : Rat) / ((DD : Int) : Rat)) 3 from fb_i64 (by omega) (by omega))
          obtain ⟨qf, hqf⟩ : ∃ qf : Rat, qf = pchI K DD (j : Int) * ((((DD : Int) - ((j : Int) + 1) + 1 : Int) : Rat) / ((DD : Int) : Rat)) := ⟨_, rfl⟩
          have HFF := Lib.hid (show FB qf 133 from by rw [hqf]; exact (FB.mul (HFP.out (j : Int)) HF3.out (by omega)).mono (by omega))
          have HQF := Lib.hid hqf
          clear hqf
          have HBX := Lib.hid (fun (w' : World) (h : Ext W14 w') => hG14.below h)
          clear hG14 h14 n14 n14' y14 fv e0 e1 e2
          refine wp_region_G (fun w' => Ext W14 w') [12] (by kernel_rfl) ?_
          have gS : Ext W14 W14.drew := (Below.refl _ _).drew
          refine wpAnyG_take 0 (v := ?_) rfl (by kernel_rfl) (by kernel_rfl) (by kernel_rfl) (by kernel_rfl) (by rfl) (by kernel_rfl) (fun _ _ _ h => h) (by rfl) (fun w' hw' => ?_) gS ?_
          rotate_left
          focus (go_simp; (try with_reducible rfl); done)
          (try simp only [Act.put, List.setIfInBounds_toArray, List.set_cons_zero, List.set_cons_succ])
          refine wpAnyG_take 1 (v := ?_) rfl (by kernel_rfl) (by kernel_rfl) (by kernel_rfl) (by kernel_rfl) (by rfl) (by kernel_rfl) (fun _ _ _ h => h) (by rfl) (fun w' hw' => ?_) gS ?_
          rotate_left
          focus (go_simp; (try with_reducible rfl); done)
          (try simp only [Act.put, List.setIfInBounds_toArray, List.set_cons_zero, List.set_cons_succ])
          refine wpAnyG_take 2 (v := ?_) rfl (by kernel_rfl) (by kernel_rfl) (by kernel_rfl) (by kernel_rfl) (by rfl) (by kernel_rfl) (fun _ _ _ h => h) (by rfl) (fun w' hw' => ?_) gS ?_
          rotate_left
          focus (go_simp; (try with_reducible rfl); done)
          (try simp only [Act.put, List.setIfInBounds_toArray, List.set_cons_zero, List.set_cons_succ])
          refine wpAnyG_take 3 (v := ?_) rfl (by kernel_rfl) (by kernel_rfl) (by kernel_rfl) (by kernel_rfl) (by rfl) (by kernel_rfl) (fun _ _ _ h => h) (by rfl) (fun w' hw' => ?_) gS ?_
          rotate_left
          focus (go_simp; (try with_reducible rfl); done)
          (try simp only [Act.put, List.setIfInBounds_toArray, List.set_cons_zero, List.set_cons_succ])
          refine wpAnyG_take 4 (v := ?_) rfl (by kernel_rfl) (by kernel_rfl) (by kernel_rfl) (by kernel_rfl) (by rfl) (by kernel_rfl) (fun _ _ _ h => h) (by rfl) (fun w' hw' => ?_) gS ?_
          rotate_left
          focus (have hh := HS.out _ hw'; go_split_ands; go_simp; (try with_reducible rfl); done)
          (try simp only [Act.put, List.setIfInBounds_toArray, List.set_cons_zero, List.set_cons_succ])
          refine wpAnyG_take 5 (v := ?_) rfl (by kernel_rfl) (by kernel_rfl) (by kernel_rfl) (by kernel_rfl) (by rfl) (by kernel_rfl) (fun _ _ _ h => h) (by rfl) (fun w' hw' => ?_) gS ?_
          rotate_left
          focus (go_simp; (try with_reducible rfl); done)
          (try simp only [Act.put, List.setIfInBounds_toArray, List.set_cons_zero, List.set_cons_succ])
          refine wpAnyG_take 6 (v := ?_) rfl (by kernel_rfl) (by kernel_rfl) (by kernel_rfl) (by kernel_rfl) (by rfl) (by kernel_rfl) (fun _ _ _ h => h) (by rfl) (fun w' hw' => ?_) gS ?_
          rotate_left
          focus (go_simp; (try with_reducible rfl); done)
          (try simp only [Act.put, List.setIfInBounds_toArray, List.set_cons_zero, List.set_cons_succ])
          refine wpAnyG_take 7 (v := ?_) rfl (by kernel_rfl) (by kernel_rfl) (by kernel_rfl) (by kernel_rfl) (by rfl) (by kernel_rfl) (fun _ _ _ h => h) (by rfl) (fun w' hw' => ?_) gS ?_
          rotate_left
          focus (go_simp; (try with_reducible rfl); done)
          (try simp only [Act.put, List.setIfInBounds_toArray, List.set_cons_zero, List.set_cons_succ])
          refine wpAnyG_take 8 (v := ?_) rfl (by kernel_rfl) (by kernel_rfl) (by kernel_rfl) (by kernel_rfl) (by rfl) (by kernel_rfl) (fun _ _ _ h => h) (by rfl) (fun w' hw' => ?_) gS ?_
          rotate_left
          focus (go_simp; (try with_reducible rfl); done)
          (try simp only [Act.put, List.setIfInBounds_toArray, List.set_cons_zero, List.set_cons_succ])
          refine wpAnyG_take 9 (v := ?_) rfl (by kernel_rfl) (by kernel_rfl) (by kernel_rfl) (by kernel_rfl) (by rfl) (by kernel_rfl) (fun _ _ _ h => h) (by rfl) (fun w' hw' => ?_) gS ?_
          rotate_left
          focus (go_simp; (try with_reducible rfl); done)
          (try simp only [Act.put, List.setIfInBounds_toArray, List.set_cons_zero, List.set_cons_succ])
          refine wpAnyG_one 10 (by kernel_rfl) rfl (by rfl) (fun K hK => ?_)
          go_simp
          go_at_call 23
          refine (fof_n (n := (DD : Int) - ((j : Int) + 1) + 1) (d := (DD : Int)) (by omega) (by omega)).mono ?_
          rintro _ s1 ⟨b4, A4', k4', c4', B4', l4, d4, rfl, h4, z4, _⟩
          have gS : Ext W14 s1 := Ext.trans gS z4
          (try go_wp2_with fail)
          refine hK.out _ _ (fun _ => gS) ?_
          clear hK K
          (try simp only [Act.put, List.setIfInBounds_toArray, List.set_cons_zero, List.set_cons_succ])
          refine wpAnyG_one 11 (by kernel_rfl) rfl (by rfl) (fun K hK => ?_)
          go_simp
          go_at_call 22
          refine (mul_f (HPV.out _ gS) (FracV.any h4 HF3.out (by omega)) (by omega)).mono ?_
          rintro _ s2 ⟨b6, A6', k6', c6', B6', l6, d6, rfl, h6, z6, n6, m6⟩
          rw [← HQF.out] at h6
          have hgz := gS.size
          have gS : Ext W14 s2 := Ext.trans gS z6
          have gg := gS
          obtain ⟨i0, i1, i2, j0, j1, j2⟩ := HBX.out _ gS
          (try go_wp2_with fail)
          refine hK.out _ _ (fun _ => gS) ?_
          clear hK K
          (try simp only [Act.put, List.setIfInBounds_toArray, List.set_cons_zero, List.set_cons_succ])
          refine wpAnyG_one 12 (by kernel_rfl) rfl (by rfl) (fun K hK => ?_)
          go_simp
          refine hK.out _ _ (fun h => absurd h (by decide)) ?_
          clear hK K
          (try simp only [Act.put, List.setIfInBounds_toArray, List.set_cons_zero, List.set_cons_succ])
          refine wpAnyG_done (by kernel_rfl) ?_ _
          have Y15 : Ext WC (((s2.setCell ⟨B14, 0, none⟩ (.bool b6)).setCell ⟨B14, 1, none⟩ (.slice A6' k6' c6')).setCell ⟨B14, 2, none⟩ (.slice B6' l6 d6)) := ext_put (Y14.trans gg) hn14 _ _ _
          have hG15 := (HBX.out _ gg).put (.bool b6) (.slice A6' k6' c6') (.slice B6' l6 d6)
          have h15 := h6.put n6 m6 (by omega) (.bool b6) (.slice A6' k6' c6') (.slice B6' l6 d6) (b := B14)
          clear h4 z4 h6 z6 n6 m6 i0 i1 i2 j0 j1 j2 gS gg hgz
          generalize ((s2.setCell ⟨B14, 0, none⟩ (.bool b6)).setCell ⟨B14, 1, none⟩ (.slice A6' k6' c6')).setCell ⟨B14, 2, none⟩ (.slice B6' l6 d6) = W15 at *
          have HFB2 := Lib.hid (fun (w' : World) (h : Ext W15 w') => hG15.below h)
          have HFV2 := Lib.hid (fun (w' : World) (h : Ext W15 w') => FracV.any (h15.below h) HFF.out (by omega))
          have HEQ := Lib.hid (show cmpQ qn (qo + qf) = 0 from (cmpQ_zero _ _).2 (by rw [HQN.out, HQO.out, HQF.out, show ((j + 1 : Nat) : Int) = (j : Int) + 1 from by omega]; exact fresh_succ (by omega)))
          clear hG15 h15
          go_upto_region 26 with (fail)
          have HS := Lib.hid (fun (w' : World) (h : Ext W15 w') => And.intro (HNS.out _ (Y15.trans h)) (And.intro (And.intro (HOB.out _ (Y15.trans h)).1 (And.intro (HOB.out _ (Y15.trans h)).2.1 (HOB.out _ (Y15.trans h)).2.2.1)) (And.intro (HFB2.out _ h).1 (And.intro (HFB2.out _ h).2.1 (HFB2.out _ h).2.2.1))))
          have HFS := Lib.hid (FB.add HFQ.out HFF.out (by omega))
          refine wp_region_G (fun w' => Ext W15 w') [8] (by kernel_rfl) ?_
          have gS : Ext W15 W15.drew := (Below.refl _ _).drew
          refine wpAnyG_take 0 (v := ?_) rfl (by kernel_rfl) (by kernel_rfl) (by kernel_rfl) (by kernel_rfl) (by rfl) (by kernel_rfl) (fun _ _ _ h => h) (by rfl) (fun w' hw' => ?_) gS ?_
          rotate_left
          focus (go_simp; (try with_reducible rfl); done)
          (try simp only [Act.put, List.setIfInBounds_toArray, List.set_cons_zero, List.set_cons_succ])
          refine wpAnyG_take 1 (v := ?_) rfl (by kernel_rfl) (by kernel_rfl) (by kernel_rfl) (by kernel_rfl) (by rfl) (by kernel_rfl) (fun _ _ _ h => h) (by rfl) (fun w' hw' => ?_) gS ?_
          rotate_left
          focus (go_simp; (try with_reducible rfl); done)
          (try simp only [Act.put, List.setIfInBounds_toArray, List.set_cons_zero, List.set_cons_succ])
          refine wpAnyG_take 2 (v := ?_) rfl (by kernel_rfl) (by kernel_rfl) (by kernel_rfl) (by kernel_rfl) (by rfl) (by kernel_rfl) (fun _ _ _ h => h) (by rfl) (fun w' hw' => ?_) gS ?_
          rotate_left
          focus (go_simp; (try with_reducible rfl); done)
          (try simp only [Act.put, List.setIfInBounds_toArray, List.set_cons_zero, List.set_cons_succ])
          refine wpAnyG_take 3 (v := ?_) rfl (by kernel_rfl) (by kernel_rfl) (by kernel_rfl) (by kernel_rfl) (by rfl) (by kernel_rfl) (fun _ _ _ h => h) (by rfl) (fun w' hw' => ?_) gS ?_
          rotate_left
          focus (have hh := HS.out _ hw'; go_split_ands; go_simp; (try with_reducible rfl); done)
          (try simp only [Act.put, List.setIfInBounds_toArray, List.set_cons_zero, List.set_cons_succ])
          refine wpAnyG_take 4 (v := ?_) rfl (by kernel_rfl) (by kernel_rfl) (by kernel_rfl) (by kernel_rfl) (by rfl) (by kernel_rfl) (fun _ _ _ h => h) (by rfl) (fun w' hw' => ?_) gS ?_
          rotate_left
          focus (have hh := HS.out _ hw'; go_split_ands; go_simp; (try with_reducible rfl); done)
          (try simp only [Act.put, List.setIfInBounds_toArray, List.set_cons_zero, List.set_cons_succ])
          refine wpAnyG_take 5 (v := ?_) rfl (by kernel_rfl) (by kernel_rfl) (by kernel_rfl) (by kernel_rfl) (by rfl) (by kernel_rfl) (fun _ _ _ h => h) (by rfl) (fun w' hw' => ?_) gS ?_
          rotate_left
          focus (have hh := HS.out _ hw'; go_split_ands; go_simp; (try with_reducible rfl); done)
          (try simp only [Act.put, List.setIfInBounds_toArray, List.set_cons_zero, List.set_cons_succ])
          refine wpAnyG_one 6 (by kernel_rfl) rfl (by rfl) (fun K hK => ?_)
          go_simp
          go_at_call 25
          refine (add_f (HOV.out _ (Y15.trans gS)) (HFV2.out _ gS) HFQ.out HFF.out (by omega)).mono ?_
          rintro _ s4 ⟨b7, A7', k7', c7', B7', l7, d7, rfl, h7, z7, _⟩
          have gS : Ext W15 s4 := Ext.trans gS z7
          (try go_wp2_with fail)
          refine hK.out _ _ (fun _ => gS) ?_
          clear hK K
          (try simp only [Act.put, List.setIfInBounds_toArray, List.set_cons_zero, List.set_cons_succ])
          refine wpAnyG_one 7 (by kernel_rfl) rfl (by rfl) (fun K hK => ?_)
          go_simp
          go_at_call 24
          refine (cmp_e (HNV.out _ (Y15.trans gS)) (FracV.any h7 HFS.out (by omega)) (by omega) HEQ.out).mono ?_
          rintro _ s5 ⟨rfl, z8⟩
          have gS : Ext W15 s5 := Ext.trans gS z8
          have gg := gS
          (try go_wp2_with fail)
          refine hK.out _ _ (fun _ => gS) ?_
          clear hK K
          (try simp only [Act.put, List.setIfInBounds_toArray, List.set_cons_zero, List.set_cons_succ])
          refine wpAnyG_one 8 (by kernel_rfl) rfl (by rfl) (fun K hK => ?_)
          go_simp
          refine hK.out _ _ (fun h => absurd h (by decide)) ?_
          clear hK K
          (try simp only [Act.put, List.setIfInBounds_toArray, List.set_cons_zero, List.set_cons_succ])
          refine wpAnyG_done (by kernel_rfl) ?_ _
          have hOf := HO2.out _ (Y15.trans gg)
          go_wp2
          go_roundw
          case rel => exact ⟨j + 1 + 1, by omega, by go_num, hOf⟩
          case measure => first | (simp [intOf]; done) | (simp [intOf]; omega)
    · obtain rfl : m = K + 1 := by omega
      have hb1 : ¬ ((K : Int) + 1 ≤ (K : Int)) := by omega
      rw [sjs_sum] at hC
      have HNW := Lib.hid (fun (w' : World) (h : Ext wr w') => (CanV.nat hC (by unfold Fit; have := HLA.out; omega)).below h)
      have hlx : ba < wr.heap.size := World.block_lt_of_cell? _ _ hc
      have HCC := Lib.hid (fun (w' : World) (h : Ext wr w') => ((h.cell (p := ⟨ba, 0, none⟩) hlx).trans hc : w'.cell? ⟨ba, 0, none⟩ = some (.slice MA mk ml)))
      have HC := Lib.hid (fun (w' : World) (h : Ext wr w') => (⟨HG3.out _ (E3.trans (hx.trans h)), HG4.out _ (E4.trans (hx.trans h)), HCC.out _ h, HB6.out _ (hx.trans h)⟩ : _ ∧ _ ∧ _ ∧ _))
      obtain ⟨⟨p0, p1, p2, _, _, _⟩, ⟨q0, q1, q2, _, _, _⟩, r0, r1⟩ := HC.out _ (Below.refl _ _)
      have f0 : Ext wr wr := Below.refl _ _
      have e1 := text_one
      have HFB1 := Lib.hid (fun k (_ : k < K + 1) => HFP.out (k : Int))
      have HFO := Lib.hid (fbQ (q := 1) (by rw [m11.1]; decide) (by rw [m11.2]; decide))
      have HTT := Lib.hid (fun (w' : World) (h : Ext wr w') => HT.out _ (V0.trans (y12.trans (E2.trans (hx.trans h)))))
      clear hC hc hf
      go_wp2_with (first
        | (go_at_call 27; (with_reducible refine (fsum_n (HL1.out _ (E1.trans (hx.trans f0))) HFB1.out (by omega) (by omega)).mono ?_); rintro _ s1 ⟨b1, A1', k1, c1', B1, l1, d1, rfl, h1, z1, _⟩; have f0 := z1; have h1 : FracV s1 b1 (.slice A1' k1 c1') (.slice B1 l1 d1) 1 := (by rw [← HSUM.out]; exact h1); have HP1 := Lib.hid (fun (w' : World) (h : Ext s1 w') => FracV.any (h1.below h) HFO.out (by omega)); obtain ⟨⟨p0, p1, p2, _, _, _⟩, ⟨q0, q1, q2, _, _, _⟩, r0, r1⟩ := HC.out _ f0)
        | (go_at_call 26; (with_reducible refine (ftext_f (n := 1) (d := 1) (HP1.out _ (Below.refl _ _)) (by omega) (by decide) (by decide) (by decide) (by omega) (by omega) (by omega) (HTT.out _ f0)).mono ?_); rintro e s2 ⟨rfl, z7⟩; have f0 := Ext.trans f0 z7; obtain ⟨⟨p0, p1, p2, _, _, _⟩, ⟨q0, q1, q2, _, _, _⟩, r0, r1⟩ := HC.out _ f0)
        | (go_at_call 25; (with_reducible refine (add_f (HP3.out _ (E3.trans (hx.trans f0))) (HP4.out _ (E4.trans (hx.trans f0))) HFm.out HFl.out (by omega)).mono ?_); rintro _ s3 ⟨b5, A5, k5, c5, B5, l5, d5, rfl, h5, z5, _⟩; have f0 := Ext.trans f0 z5; have h5 : FracV s3 b5 (.slice A5 k5 c5) (.slice B5 l5 d5) 1 := (by rw [← HV1.out]; exact h5); have HP1 := Lib.hid (fun (w' : World) (h : Ext s3 w') => FracV.any (h5.below h) HFO.out (by omega)); obtain ⟨⟨p0, p1, p2, _, _, _⟩, ⟨q0, q1, q2, _, _, _⟩, r0, r1⟩ := HC.out _ f0)
        | (go_at_call 28; (with_reducible refine (cmp_same (HNW.out _ f0) (HNA.out _ (hx.trans f0))).mono ?_); rintro _ s4 ⟨rfl, z7⟩; have f0 := Ext.trans f0 z7))
      go_ret
      exact ⟨rfl, V0.trans (y12.trans (E2.trans (hx.trans f0)))⟩

end Go.Proofs.YtglphodaoafdmaaDoor
