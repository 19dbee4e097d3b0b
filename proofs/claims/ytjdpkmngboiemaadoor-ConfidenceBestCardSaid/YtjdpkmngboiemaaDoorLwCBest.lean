/- The walk of ConfidenceBest. -/
import Derived.Test.YtjdpkmngboiemaaDoorConL
import Derived.Test.YtjdpkmngboiemaaDoorWf
set_option linter.unusedVariables false
set_option linter.unusedSimpArgs false
set_option maxRecDepth 100000
namespace Go.Proofs.YtjdpkmngboiemaaDoor
open Go.RowKit Num

set_option maxHeartbeats 8000000 in
theorem law_CBest {v0 : Value} {z0 : Int × Int × Int} {w : World} (h0 : v0 = .agg #[.int .i64 z0.1, .int .i64 z0.2.1, .int .i64 z0.2.2] ∧ (Lit.int .i64 z0.1).wf = true ∧ (Lit.int .i64 z0.2.1).wf = true ∧ (Lit.int .i64 z0.2.2).wf = true) (ht : Tab10 w) :
    Calls Tryd.prog 7 #[v0] w (fun e w' => e = .returned (.bool true) ∧ Ext w w') := by
  obtain ⟨a, b, c⟩ := z0
  obtain ⟨rfl, wa, wb, wc⟩ := h0
  have hA := i64_of_wf wa
  have hB := i64_of_wf wb
  have hC := i64_of_wf wc
  clear wa wb wc
  have HT := Lib.hid (fun (w' : World) (h : Ext w w') => ht.ext h)
  clear ht
  go_enter Tryd.func7, Tryd.ntmps7
  go_upto_region 1 with (fail)
  have hB0 := FBox.new w (.int .i64 a) (.int .i64 b) (.int .i64 c) 42
  have x0 : Ext w (w.alloc (.cells #[.int .i64 a, .int .i64 b, .int .i64 c] 42)) := ext_alloc (Below.refl _ _) _
  have hs0 : w.heap.size + 1 ≤ (w.alloc (.cells #[.int .i64 a, .int .i64 b, .int .i64 c] 42)).heap.size := by simp
  generalize (w.alloc (.cells #[.int .i64 a, .int .i64 b, .int .i64 c] 42)) = W0 at *
  have HB0 := Lib.hid (fun (w' : World) (h : Ext W0 w') => hB0.below h)
  obtain ⟨c00, c01, c02, d00, d01, d02⟩ := hB0
  have HE := Lib.hid x0
  clear x0
  have f0 : Ext W0 W0 := Below.refl _ _
  go_wp2_with fail
  refine (kawake (HT.out _ HE.out)).mono ?_
  rintro e U1 ⟨rfl, y1⟩
  obtain ⟨c00, c01, c02, _, _, _⟩ := HB0.out _ y1
  go_wp2_with fail
  refine (lsample hA hB hC).mono ?_
  rintro e U3 ⟨N, E, M, hS, rfl, x3⟩
  have y3 := Ext.trans y1 x3
  obtain ⟨c00, c01, c02, d00, d01, d02⟩ := HB0.out _ y3
  go_upto_region 4 with (fail)
  have P0 := FBox.put (HB0.out _ y3) (.int .i64 N) (.int .i64 E) (.int .i64 M)
  have XV := ext_put (b := w.heap.size) (HE.out.trans y3) (by omega) (.int .i64 N) (.int .i64 E) (.int .i64 M)
  generalize ((U3.setCell ⟨w.heap.size, 0, none⟩ (.int .i64 N)).setCell ⟨w.heap.size, 1, none⟩ (.int .i64 E)).setCell ⟨w.heap.size, 2, none⟩ (.int .i64 M) = V at *
  clear c00 c01 c02 d00 d01 d02
  have HP0 := Lib.hid (fun (w' : World) (h : Ext V w') => P0.below h)
  clear P0
  obtain ⟨h1, h2, h3⟩ := hS
  have HXV := Lib.hid XV
  have f0 : Ext V V := Below.refl _ _
  obtain ⟨c00, c01, c02, _, _, _⟩ := HP0.out _ f0
  by_cases hME : M < E
  · have HL := Lib.hid (fun w => klike_any (n := (N : Int)) (d := (E : Int)) (m := (M : Int)) (w := w))
    have hq := like_none (din_of h1 h2 h3) (show (M : Int) < (E : Int) from by omega)
    rw [hq.1, hq.2] at HL
    have e1 : decide ((M : Int) < (E : Int)) = true := decide_eq_true (by omega)
    go_wp2_with fail
    refine (HL.out _).mono ?_
    rintro e U4 ⟨rfl, y4⟩
    obtain ⟨c00, c01, c02, _, _, _⟩ := HP0.out _ y4
    go_wp2
    go_ret
    exact ⟨rfl, HXV.out.trans y4⟩
  · have HL := Lib.hid (fun w => klike_ok (w := w) h1 h2 (show E ≤ M from by omega) h3.2)
    have HPC := Lib.hid (fun (D : Nat) => (show pchI N D (E : Int) = pch N D E from by unfold pchI; rw [if_neg (by omega), Int.toNat_natCast]))
    have HFB := Lib.hid (fun (D : Nat) (h : D ≤ 60) => (show FB (pch N D E) 130 from by rw [← HPC.out]; exact pchI_fbC (n := N) (D := D) (by omega) h (E : Int)))
    have HCH := Lib.hid (fun (D : Nat) (g1 : 1 ≤ D) (g2 : D ≤ 60) (w' : World) => (show Calls Tryd.prog 12 #[.int .i64 N, .int .i64 D, .int .i64 E] w' (GivesFE w' (pch N D E)) from by have h0 := ochance_ok (n := N) (D := D) (d := (E : Int)) (w := w') (by omega) g1 g2; rw [HPC.out] at h0; exact h0))
    obtain ⟨hl1, hl2, hl3⟩ := likeF_law (n := N) (d := E) (M - E)
    obtain ⟨y, hy⟩ : ∃ y, y = likeF N E (M - E) := ⟨_, rfl⟩
    rw [← hy] at hl1 hl2 hl3 HL
    have HL2 := Lib.hid (show ∀ D, E ≤ D → D ≤ M → pch N D E ≤ pch N y E from fun D g1 g2 => hl2 D g1 (by omega))
    have HL3 := Lib.hid hl3
    have hyM : E ≤ y ∧ y ≤ M := by omega
    have hd1 : decide ((M : Int) < (E : Int)) = false := decide_eq_false (by omega)
    clear hl2 hl3 hy hl1
    go_wp2_with fail
    refine (HL.out _).mono ?_
    rintro e U4 ⟨rfl, y4⟩
    obtain ⟨c00, c01, c02, _, _, _⟩ := HP0.out _ y4
    go_wp2_with fail
    refine (HCH.out y (by omega) (by omega) _).mono ?_
    rintro e w1 ⟨b1, A1, k1, c1, A1', k1', c1', rfl, h1, y1, n1, n1'⟩
    clear n1 n1'
    go_upto_region 8 with (fail)
    have hG1 := FBox.new w1 (.bool b1) (.slice A1 k1 c1) (.slice A1' k1' c1') 27
    have Y1 : Ext U4 (w1.alloc (.cells #[.bool b1, .slice A1 k1 c1, .slice A1' k1' c1'] 27)) := ext_alloc y1 _
    have h1 := h1.below (ext_alloc (Below.refl _ _) (.cells #[.bool b1, .slice A1 k1 c1, .slice A1' k1' c1'] 27))
    have hsz1 : w1.heap.size < (w1.alloc (.cells #[.bool b1, .slice A1 k1 c1, .slice A1' k1' c1'] 27)).heap.size := by simp
    generalize w1.alloc (.cells #[.bool b1, .slice A1 k1 c1, .slice A1' k1' c1'] 27) = W1 at *
    generalize w1.heap.size = B1 at *
    have HG1 := Lib.hid (fun (w' : World) (h : Ext W1 w') => hG1.below h)
    have HP1 := Lib.hid (fun (w' : World) (h : Ext W1 w') => FracV.any (h1.below h) ((HFB.out y (by omega))) (by omega))
    have HB1 := Lib.hid (fun (w' : World) (h : Ext W1 w') => h1.below h)
    clear hG1 h1 y1 hsz1
    have y5 := y4.trans Y1
    obtain ⟨c00, c01, c02, _, _, _⟩ := HP0.out _ y5
    go_wp2_with (go_at_call 26; (with_reducible refine (lin_t (n := (y : Int)) (low := (E : Int)) (high := (M : Int)) (by omega) (by omega)).mono ?_); rintro _ s1 ⟨rfl, hs1⟩; obtain rfl : W1 = s1 := hs1.symm)
    go_loopw [7] (fun iv wr => ∃ D : Nat, (E ≤ D ∧ D ≤ M + 1) ∧ iv = .int .i64 D ∧ Ext W1 wr) (fun iv _ => M + 1 - (intOf iv).toNat)
    case atStart => exact ⟨E, ⟨Nat.le_refl _, by omega⟩, rfl, Below.refl _ _⟩
    case round =>
      clear c00 c01 c02
      obtain ⟨D, hD, rfl, hx⟩ := hrel
      have y6 := y5.trans hx
      obtain ⟨c00, c01, c02, _, _, _⟩ := HP0.out _ y6
      by_cases hDM : D ≤ M
      · have hb1 : (D : Int) ≤ (M : Int) := by omega
        have hw1 : IntKind.i64.wrap ((D : Int) + 1) = (D : Int) + 1 := wrap_in (by omega)
        have hle := HL2.out D hD.1 hDM
        have HLT := Lib.hid (fun (h : D < y) => HL3.out D hD.1 h)
        have HKC := Lib.hid (fun w' => HCH.out D (by omega) (by omega) w')
        have HF1 := Lib.hid (HFB.out D (by omega))
        obtain ⟨p, hp⟩ : ∃ p, p = pch N D E := ⟨_, rfl⟩
        rw [← hp] at HKC HF1 hle HLT
        obtain ⟨r, hr⟩ : ∃ r, r = pch N y E := ⟨_, rfl⟩
        have HP2 := Lib.hid (fun (w' : World) (h : Ext wr w') => HP1.out _ (hx.trans h))
        have HG2 := Lib.hid (fun (w' : World) (h : Ext wr w') => HG1.out _ (hx.trans h))
        rw [← hr] at HP2 hle HLT
        obtain ⟨z, hz⟩ : ∃ z, cmpQ p r = z := ⟨_, rfl⟩
        have HZ := Lib.hid hz
        have hz0 : ¬ 0 < z := by rw [← hz, cmpQ_pos]; grind
        have hzy : z = 0 → ¬ D < y := by
          intro h0 h1
          rw [← hz, cmpQ_zero] at h0
          have := HLT.out h1
          rw [h0] at this
          exact absurd this (by grind)
        clear hle hp hr hz
        go_wp2_with fail
        refine (HKC.out _).mono ?_
        rintro e w3 ⟨b3, A3, k3, c3, A3', k3', c3', rfl, h3, y3, n3, n3'⟩
        clear n3 n3'
        go_upto_region 14 with (fail)
        have hG3 := FBox.new w3 (.bool b3) (.slice A3 k3 c3) (.slice A3' k3' c3') 27
        have Y3 : Ext wr (w3.alloc (.cells #[.bool b3, .slice A3 k3 c3, .slice A3' k3' c3'] 27)) := ext_alloc y3 _
        have h3 := h3.below (ext_alloc (Below.refl _ _) (.cells #[.bool b3, .slice A3 k3 c3, .slice A3' k3' c3'] 27))
        have hsz3 : w3.heap.size < (w3.alloc (.cells #[.bool b3, .slice A3 k3 c3, .slice A3' k3' c3'] 27)).heap.size := by simp
        generalize w3.alloc (.cells #[.bool b3, .slice A3 k3 c3, .slice A3' k3' c3'] 27) = W3 at *
        generalize w3.heap.size = B3 at *
        have HG3 := Lib.hid (fun (w' : World) (h : Ext W3 w') => hG3.below h)
        have HP3 := Lib.hid (fun (w' : World) (h : Ext W3 w') => FracV.any (h3.below h) (HF1.out) (by omega))
        have HB3 := Lib.hid (fun (w' : World) (h : Ext W3 w') => h3.below h)
        clear hG3 h3 y3 hsz3
        obtain ⟨p0, p1, p2, _, _, _⟩ := HG2.out _ Y3
        obtain ⟨q0, q1, q2, _, _, _⟩ := HG3.out _ (Below.refl _ _)
        have e2 : decide (0 < z) = false := decide_eq_false (by omega)
        by_cases hzz : z = 0
        · subst hzz
          have e3 : decide ((D : Int) < (y : Int)) = false := decide_eq_false (by have := hzy rfl; omega)
          go_wp2_with (go_at_call 16; (with_reducible refine (cmp_e (HP3.out _ (Below.refl _ _)) (HP2.out _ Y3) (by omega) HZ.out).mono ?_); rintro _ s4 ⟨rfl, z4⟩)
          go_roundw
          case rel => exact ⟨D + 1, by omega, by go_num, hx.trans (Y3.trans z4)⟩
          case measure => simp [intOf]; omega
        · have e3 : decide (z = 0) = false := decide_eq_false hzz
          have e4 : (z == 0) = false := by rw [beq_eq_false_iff_ne]; exact hzz
          go_wp2_with (go_at_call 16; (with_reducible refine (cmp_e (HP3.out _ (Below.refl _ _)) (HP2.out _ Y3) (by omega) HZ.out).mono ?_); rintro _ s4 ⟨rfl, z4⟩)
          go_roundw
          case rel => exact ⟨D + 1, by omega, by go_num, hx.trans (Y3.trans z4)⟩
          case measure => simp [intOf]; omega
      · have hb1 : ¬ ((D : Int) ≤ (M : Int)) := by omega
        go_wp2
        go_ret
        exact ⟨rfl, HXV.out.trans y6⟩

end Go.Proofs.YtjdpkmngboiemaaDoor
