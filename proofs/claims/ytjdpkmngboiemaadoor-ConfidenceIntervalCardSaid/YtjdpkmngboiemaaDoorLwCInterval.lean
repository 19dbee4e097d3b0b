/- The walk of ConfidenceInterval. -/
import Derived.Test.YtjdpkmngboiemaaDoorAsc
import Derived.Test.YtjdpkmngboiemaaDoorWf
set_option linter.unusedVariables false
set_option linter.unusedSimpArgs false
set_option maxRecDepth 100000
namespace Go.Proofs.YtjdpkmngboiemaaDoor
open Go.RowKit Num

set_option maxHeartbeats 8000000 in
theorem law_CInterval {v0 v1 : Value} {z0 : Int × Int × Int} {z1 : FracIn} {w : World} (h0 : v0 = .agg #[.int .i64 z0.1, .int .i64 z0.2.1, .int .i64 z0.2.2] ∧ (Lit.int .i64 z0.1).wf = true ∧ (Lit.int .i64 z0.2.1).wf = true ∧ (Lit.int .i64 z0.2.2).wf = true) (h1 : KFrac w v1 z1) (ht : Tab10 w) :
    Calls Tryd.prog 4 #[v0, v1] w (fun e w' => e = .returned (.bool true) ∧ Ext w w') := by
  obtain ⟨a, b, c⟩ := z0
  obtain ⟨rfl, wa, wb, wc⟩ := h0
  have hA := i64_of_wf wa
  have hB := i64_of_wf wb
  have hC := i64_of_wf wc
  clear wa wb wc
  obtain ⟨ng, nl, nv, dl, dv⟩ := z1
  obtain ⟨s, t, rfl, hs, hd⟩ := h1
  dsimp only at hs hd
  have HSL := Lib.hid (fun (w' : World) (h : Ext w w') => hs.below h)
  have HDL := Lib.hid (fun (w' : World) (h : Ext w w') => hd.below h)
  have HT := Lib.hid (fun (w' : World) (h : Ext w w') => ht.ext h)
  clear ht
  by_cases hf : nl ≤ 3 ∧ dl ≤ 3
  · have HX := Lib.hid (fun (w' : World) (h : Ext w w') => KFrac.any (z := ⟨ng, nl, nv, dl, dv⟩) (HSL.out _ h) (HDL.out _ h) (L := 3) hf.1 hf.2 (by omega))
    have HFW := Lib.hid hf
    clear hs hd
    dsimp only at HX
    obtain ⟨q, hq⟩ : ∃ q, q = frac ng nv dv := ⟨_, rfl⟩
    rw [← hq] at HX
    clear hq hf
    have HR := Lib.hid (fun (n d m : Int) (w' : World) (h : Ext w w') => krange_any (n := n) (d := d) (m := m) (HX.out _ h) (by omega) (by omega) (HT.out _ h))
    have HSET := Lib.hid (fun (n d m : Int) (w' : World) (h : Ext w w') => kset_any (n := n) (d := d) (m := m) (HX.out _ h) (by omega) (by omega) (HT.out _ h))
    have HACC := Lib.hid (fun (n d m : Int) (w' : World) (h : Ext w w') => kaccepts_any (n := n) (d := d) (D := m) (HX.out _ h) (by omega) (by omega) (HT.out _ h))
    go_enter Tryd.func4, Tryd.ntmps4
    go_upto_region 1 with (fail)
    have hB0 := (FBox.new w (.int .i64 a) (.int .i64 b) (.int .i64 c) 42).below (ext_alloc (Below.refl _ _) (.cells #[.bool ng, s, t] 27))
    have hB1 := FBox.new (w.alloc (.cells #[.int .i64 a, .int .i64 b, .int .i64 c] 42)) (.bool ng) (s) (t) 27
    rw [show (w.alloc (.cells #[.int .i64 a, .int .i64 b, .int .i64 c] 42)).heap.size = w.heap.size + 1 from by simp] at hB1
    have x0 : Ext w ((w.alloc (.cells #[.int .i64 a, .int .i64 b, .int .i64 c] 42)).alloc (.cells #[.bool ng, s, t] 27)) := ext_alloc (ext_alloc (Below.refl _ _) _) _
    have hs0 : w.heap.size + 1 + 1 ≤ ((w.alloc (.cells #[.int .i64 a, .int .i64 b, .int .i64 c] 42)).alloc (.cells #[.bool ng, s, t] 27)).heap.size := by simp
    generalize ((w.alloc (.cells #[.int .i64 a, .int .i64 b, .int .i64 c] 42)).alloc (.cells #[.bool ng, s, t] 27)) = W0 at *
    have HB0 := Lib.hid (fun (w' : World) (h : Ext W0 w') => hB0.below h)
    obtain ⟨c00, c01, c02, d00, d01, d02⟩ := hB0
    have HB1 := Lib.hid (fun (w' : World) (h : Ext W0 w') => hB1.below h)
    obtain ⟨c10, c11, c12, d10, d11, d12⟩ := hB1
    have HE := Lib.hid x0
    clear x0
    have f0 : Ext W0 W0 := Below.refl _ _
    go_wp2_with fail
    refine (kawake (HT.out _ HE.out)).mono ?_
    rintro e U1 ⟨rfl, y1⟩
    obtain ⟨c10, c11, c12, _, _, _⟩ := HB1.out _ y1
    go_wp2_with fail
    refine (lfew_t (HSL.out _ (HE.out.trans y1)) (HDL.out _ (HE.out.trans y1)) HFW.out).mono ?_
    rintro e U2 ⟨rfl, y2⟩
    have y2 := Ext.trans y1 y2
    obtain ⟨c00, c01, c02, _, _, _⟩ := HB0.out _ y2
    go_wp2_with fail
    refine (lsample hA hB hC).mono ?_
    rintro e U3 ⟨N, E, M, hS, rfl, x3⟩
    have y3 := Ext.trans y2 x3
    obtain ⟨c00, c01, c02, d00, d01, d02⟩ := HB0.out _ y3
    go_upto_region 4 with (fail)
    have P0 := FBox.put (HB0.out _ y3) (.int .i64 N) (.int .i64 E) (.int .i64 M)
    have P1 := FBox.away (b' := w.heap.size) (HB1.out _ y3) (by omega) (.int .i64 N) (.int .i64 E) (.int .i64 M)
    have XV := ext_put (b := w.heap.size) (HE.out.trans y3) (by omega) (.int .i64 N) (.int .i64 E) (.int .i64 M)
    generalize ((U3.setCell ⟨w.heap.size, 0, none⟩ (.int .i64 N)).setCell ⟨w.heap.size, 1, none⟩ (.int .i64 E)).setCell ⟨w.heap.size, 2, none⟩ (.int .i64 M) = V at *
    clear c00 c01 c02 d00 d01 d02
    have HP0 := Lib.hid (fun (w' : World) (h : Ext V w') => P0.below h)
    clear P0
    have HP1 := Lib.hid (fun (w' : World) (h : Ext V w') => P1.below h)
    clear P1
    have HSI := Lib.hid hS
    have hM60 : 1 ≤ M ∧ M ≤ 60 := hS.2.2
    have HXV := Lib.hid XV
    by_cases hq : Lvl q
    · have HKS := Lib.hid (fun (w' : World) (h : Ext V w') => HSET.out N E M w' (XV.trans h))
      have HKR := Lib.hid (fun (w' : World) (h : Ext V w') => HR.out N E M w' (XV.trans h))
      rw [accE_ok hS.din hq, setL_ok hS.din hq] at HKS HKR
      have HKA := Lib.hid (fun (D : Nat) (g1 : 1 ≤ D) (g2 : D ≤ 60) (w' : World) (h : Ext V w') => (show Calls Tryd.prog 11 #[.int .i64 N, .int .i64 E, .int .i64 D, .agg #[.bool ng, s, t]] w' (fun e w'' => e = .returned (.tuple #[.bool (decide (Acc N E D (q / 2))), .int .i64 0]) ∧ Ext w' w'') from by
        have h0 := HACC.out N E D w' (XV.trans h)
        have hdin : DIn N E D := din_of hS.1 hS.2.1 ⟨g1, g2⟩
        rw [accE_ok hdin hq, accB_ok hdin hq] at h0
        exact h0))
      have HGE := Lib.hid (fun (D : Nat) (g1 : 1 ≤ D) (h : Acc N E D (q / 2)) => h.ge (by omega) (by rw [Rat.div_def]; exact Rat.mul_nonneg (Rat.le_of_lt hq.1) (by decide +kernel)))
      have HLM := Lib.hid (fun (D : Nat) (g1 : 1 ≤ D) (g2 : D ≤ M) => (show decide ((D : Int) ∈ natsI (accL N E (q / 2) M)) = decide (Acc N E D (q / 2)) from by
        by_cases h : Acc N E D (q / 2)
        · rw [decide_eq_true h, decide_eq_true (mem_natsI.2 (mem_accL.2 ⟨g1, g2, h⟩))]
        · rw [decide_eq_false h, decide_eq_false fun h' => h (mem_accL.1 (mem_natsI.1 h')).2.2]))
      have HLL := Lib.hid (show (natsI (accL N E (q / 2) M)).length ≤ 60 from by rw [natsI_length]; have := accL_length (n := N) (d := E) (h := q / 2) M; omega)
      have HSH := Lib.hid (show natsI (accL N E (q / 2) M) = [] ∨ ∃ lo k, 1 ≤ lo ∧ lo + k ≤ M ∧ (natsI (accL N E (q / 2) M)).length = k + 1 ∧ (∀ i, i ≤ k → (natsI (accL N E (q / 2) M)).getD i 0 = ((lo + i : Nat) : Int)) from by
        rcases set_shape (n := N) (m := M) (h := q / 2) hS.2.1.1 with h | h
        · exact .inl (by rw [h]; rfl)
        · exact .inr h)
      generalize natsI (accL N E (q / 2) M) = l at HKS HKR HLM HLL HSH
      clear hq
      have f0 : Ext V V := Below.refl _ _
      obtain ⟨c00, c01, c02, _, _, _⟩ := HP0.out _ f0
      obtain ⟨c10, c11, c12, _, _, _⟩ := HP1.out _ f0
      go_wp2_with fail
      refine (HKS.out _ f0).mono ?_
      rintro e U4 ⟨A4, k4, rfl, hI4, y4, _⟩
      have HI4 := Lib.hid (fun (w' : World) (h : Ext U4 w') => hI4.below h)
      clear hI4
      obtain ⟨c00, c01, c02, _, _, _⟩ := HP0.out _ y4
      obtain ⟨c10, c11, c12, _, _, _⟩ := HP1.out _ y4
      obtain ⟨R, hR⟩ : ∃ R, rngOf l M 0 = R := ⟨_, rfl⟩
      rw [hR] at HKR
      have HRR := Lib.hid hR
      clear hR
      obtain ⟨⟨R1, R2⟩, R3, R4⟩ := R
      go_wp2_with fail
      refine (HKR.out _ y4).mono ?_
      rintro e U5 ⟨rfl, x5⟩
      have y5 := Ext.trans y4 x5
      dsimp only
      go_wp2
      go_loopw [11] (fun iv wr => ∃ D : Nat, D ≤ M ∧ iv = .int .i64 ((D : Int) + 1) ∧ Ext U5 wr) (fun iv _ => M + 1 - (intOf iv).toNat)
      case atStart => exact ⟨0, Nat.zero_le _, rfl, Below.refl _ _⟩
      case round =>
        clear c00 c01 c02 c10 c11 c12
        obtain ⟨D, hD, rfl, hx⟩ := hrel
        have y6 := y5.trans hx
        obtain ⟨c00, c01, c02, _, _, _⟩ := HP0.out _ y6
        obtain ⟨c10, c11, c12, _, _, _⟩ := HP1.out _ y6
        by_cases hDM : D < M
        · have hb1 : (D : Int) + 1 ≤ (M : Int) := by omega
          have hw1 : IntKind.i64.wrap ((D : Int) + 1 + 1) = (D : Int) + 1 + 1 := wrap_in (by omega)
          have HK2 := Lib.hid (fun (w' : World) (h : Ext V w') => HKA.out (D + 1) (by omega) (by omega) w' h)
          have HL2 := Lib.hid (HLM.out (D + 1) (by omega) (by omega))
          have HG2 := Lib.hid (HGE.out (D + 1) (by omega))
          rw [show ((D + 1 : Nat) : Int) = (D : Int) + 1 from by omega] at HK2 HL2
          by_cases ha : Acc N E (D + 1) (q / 2)
          · have hge := HG2.out ha
            rw [decide_eq_true ha] at HK2 HL2
            have e1 : decide ((D : Int) + 1 < (E : Int)) = false := decide_eq_false (by omega)
            clear ha
            go_wp2_with fail
            refine (HK2.out _ y6).mono ?_
            rintro e U6 ⟨rfl, x6⟩
            have y7 := y6.trans x6
            obtain ⟨c00, c01, c02, _, _, _⟩ := HP0.out _ y7
            go_wp2_with (go_at_call 15; (with_reducible refine (lhas (HI4.out _ (x5.trans (hx.trans x6))) (by have := HLL.out; omega)).mono ?_); rw [HL2.out]; rintro _ U7 ⟨rfl, rfl⟩)
            go_roundw
            case rel => exact ⟨D + 1, by omega, by go_num, hx.trans x6⟩
            case measure => simp [intOf]; omega
          · rw [decide_eq_false ha] at HK2 HL2
            clear ha
            go_wp2_with fail
            refine (HK2.out _ y6).mono ?_
            rintro e U6 ⟨rfl, x6⟩
            have y7 := y6.trans x6
            obtain ⟨c00, c01, c02, _, _, _⟩ := HP0.out _ y7
            go_wp2_with (go_at_call 15; (with_reducible refine (lhas (HI4.out _ (x5.trans (hx.trans x6))) (by have := HLL.out; omega)).mono ?_); rw [HL2.out]; rintro _ U7 ⟨rfl, rfl⟩)
            go_roundw
            case rel => exact ⟨D + 1, by omega, by go_num, hx.trans x6⟩
            case measure => simp [intOf]; omega
        · obtain rfl : D = M := by omega
          have hb1 : ¬ ((D : Int) + 1 ≤ (D : Int)) := by omega
          rcases HSH.out with hl | ⟨lo, k, g1, g2, g3, g4⟩
          · subst hl
            obtain ⟨rfl, rfl, rfl, rfl⟩ : R1 = 0 ∧ R2 = 0 ∧ R3 = false ∧ R4 = 7 := by
              have h := HRR.out
              rw [show rngOf [] (D : Int) 0 = ((0, 0), (false, 7)) from rfl] at h
              injection h with h1 h2
              injection h1 with h3 h4
              injection h2 with h5 h6
              exact ⟨h3.symm, h4.symm, h5.symm, h6.symm⟩
            go_wp2
            go_ret
            exact ⟨rfl, HXV.out.trans y6⟩
          · have hl0 : l ≠ [] := by intro h; rw [h] at g3; simp at g3
            obtain ⟨hi, hhi⟩ : ∃ hi : Nat, hi = lo + k := ⟨_, rfl⟩
            have hR : rngOf l (D : Int) 0 = ((((lo : Nat) : Int), (hi : Int)), (decide ((hi : Int) = (D : Int)), 0)) := by
              unfold rngOf
              rw [if_neg (by decide), if_neg hl0, show l.length - 1 = k from by omega, g4 k (Nat.le_refl _), g4 0 (Nat.zero_le _), hhi, Nat.add_zero]
            obtain ⟨rfl, rfl, rfl, rfl⟩ : R1 = ((lo : Nat) : Int) ∧ R2 = (hi : Int) ∧ R3 = decide ((hi : Int) = (D : Int)) ∧ R4 = 0 := by
              have h := HRR.out
              rw [hR] at h
              injection h with h1 h2
              injection h1 with h3 h4
              injection h2 with h5 h6
              exact ⟨h3.symm, h4.symm, h5.symm, h6.symm⟩
            obtain ⟨r3, hr3⟩ : ∃ r3, decide ((hi : Int) = (D : Int)) = r3 := ⟨_, rfl⟩
            rw [hr3]
            have hr3' : ((hi : Int) == (D : Int)) = r3 := by rw [← hr3]; rfl
            have hI := HI4.out _ (x5.trans hx)
            obtain ⟨b1, o1, rfl, hb1', hc1⟩ := hI.plC (k := k) (by omega)
            obtain ⟨b2, o2, he, hb2', hc2⟩ := hI.plC (k := 0) (by omega)
            obtain ⟨rfl, rfl⟩ : b1 = b2 ∧ o1 = o2 := by
              injection he with he
              injection he with he1 he2
              exact ⟨he1, he2⟩
            rw [Nat.add_zero] at hc2
            rw [g4 k (Nat.le_refl _), ← hhi] at hc1
            rw [g4 0 (Nat.zero_le _), Nat.add_zero] at hc2
            have hL60 := HLL.out
            have hw1 : IntKind.i64.wrap ((l.length : Int) - 1) = (k : Int) := by rw [wrap_in (by omega)]; omega
            have hw2 : IntKind.i64.wrap ((hi : Int) - (lo : Int)) = (k : Int) := by rw [wrap_in (by omega)]; omega
            have hi1 : (0 : Int) ≤ (k : Int) := by omega
            have hi2 : (k : Int) < (l.length : Int) := by omega
            have hi3 : (0 : Int) < (l.length : Int) := by omega
            have hi4 : decide ((l.length : Int) = 0) = false := decide_eq_false (by omega)
            have hi5 : ((l.length : Int) == 0) = false := by rw [beq_eq_false_iff_ne]; omega
            have HASC := Lib.hid (fun (w' : World) (h : Ext U4 w') => lascend (low := 1) (high := (D : Int)) (HI4.out _ h) (by omega) (fun i hi => by rw [g4 i (by omega)]; omega) (fun i hi => by rw [g4 i (by omega), g4 (i + 1) (by omega)]; omega))
            clear g3 g4 hR hl0 hI he hhi hr3
            go_wp2_with (go_at_call 22; (with_reducible refine (HASC.out _ (x5.trans hx)).mono ?_); rintro _ U7 ⟨rfl, x7⟩)
            go_ret
            exact ⟨by first | rfl | simp, HXV.out.trans (y6.trans x7)⟩
    · have HKS := Lib.hid (fun (w' : World) (h : Ext V w') => HSET.out N E M w' (XV.trans h))
      have HKR := Lib.hid (fun (w' : World) (h : Ext V w') => HR.out N E M w' (XV.trans h))
      have HE1 := Lib.hid (accE_arg hS.din hq)
      rw [HE1.out, setL_no (by rw [HE1.out]; decide)] at HKS HKR
      rw [show rngOf [] (M : Int) 1 = ((0, 0), (false, 1)) from rfl] at HKR
      have f0 : Ext V V := Below.refl _ _
      obtain ⟨c00, c01, c02, _, _, _⟩ := HP0.out _ f0
      obtain ⟨c10, c11, c12, _, _, _⟩ := HP1.out _ f0
      go_wp2_with fail
      refine (HKS.out _ f0).mono ?_
      rintro e U4 ⟨A4, k4, rfl, hI4, y4, _⟩
      obtain ⟨c00, c01, c02, _, _, _⟩ := HP0.out _ y4
      obtain ⟨c10, c11, c12, _, _, _⟩ := HP1.out _ y4
      go_wp2_with fail
      refine (HKR.out _ y4).mono ?_
      rintro e U5 ⟨rfl, x5⟩
      go_wp2
      go_ret
      exact ⟨rfl, HXV.out.trans (y4.trans x5)⟩
  · clear hs hd
    have HFW := Lib.hid hf
    clear hf
    go_enter Tryd.func4, Tryd.ntmps4
    go_upto_region 1 with (fail)
    have hB0 := (FBox.new w (.int .i64 a) (.int .i64 b) (.int .i64 c) 42).below (ext_alloc (Below.refl _ _) (.cells #[.bool ng, s, t] 27))
    have hB1 := FBox.new (w.alloc (.cells #[.int .i64 a, .int .i64 b, .int .i64 c] 42)) (.bool ng) (s) (t) 27
    rw [show (w.alloc (.cells #[.int .i64 a, .int .i64 b, .int .i64 c] 42)).heap.size = w.heap.size + 1 from by simp] at hB1
    have x0 : Ext w ((w.alloc (.cells #[.int .i64 a, .int .i64 b, .int .i64 c] 42)).alloc (.cells #[.bool ng, s, t] 27)) := ext_alloc (ext_alloc (Below.refl _ _) _) _
    have hs0 : w.heap.size + 1 + 1 ≤ ((w.alloc (.cells #[.int .i64 a, .int .i64 b, .int .i64 c] 42)).alloc (.cells #[.bool ng, s, t] 27)).heap.size := by simp
    generalize ((w.alloc (.cells #[.int .i64 a, .int .i64 b, .int .i64 c] 42)).alloc (.cells #[.bool ng, s, t] 27)) = W0 at *
    have HB0 := Lib.hid (fun (w' : World) (h : Ext W0 w') => hB0.below h)
    obtain ⟨c00, c01, c02, d00, d01, d02⟩ := hB0
    have HB1 := Lib.hid (fun (w' : World) (h : Ext W0 w') => hB1.below h)
    obtain ⟨c10, c11, c12, d10, d11, d12⟩ := hB1
    have HE := Lib.hid x0
    clear x0
    have f0 : Ext W0 W0 := Below.refl _ _
    go_wp2_with fail
    refine (kawake (HT.out _ HE.out)).mono ?_
    rintro e U1 ⟨rfl, y1⟩
    obtain ⟨c10, c11, c12, _, _, _⟩ := HB1.out _ y1
    go_wp2_with fail
    refine (lfew_f (HSL.out _ (HE.out.trans y1)) (HDL.out _ (HE.out.trans y1)) HFW.out).mono ?_
    rintro e U2 ⟨rfl, y2⟩
    have y2 := Ext.trans y1 y2
    go_wp2_with fail
    refine (kawake (HT.out _ (HE.out.trans y2))).mono ?_
    rintro e U3 ⟨rfl, y3⟩
    go_wp2
    go_ret
    exact ⟨rfl, HE.out.trans (y2.trans y3)⟩

end Go.Proofs.YtjdpkmngboiemaaDoor
