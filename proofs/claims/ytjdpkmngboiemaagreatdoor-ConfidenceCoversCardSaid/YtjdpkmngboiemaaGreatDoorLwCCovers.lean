/- The walk of ConfidenceCovers. -/
import Derived.Test.YtjdpkmngboiemaaGreatDoorConL
import Derived.Test.YtjdpkmngboiemaaGreatDoorConR
import Derived.Test.YtjdpkmngboiemaaGreatDoorWf
set_option linter.unusedVariables false
set_option linter.unusedSimpArgs false
set_option maxRecDepth 100000
namespace Go.Proofs.YtjdpkmngboiemaaGreatDoor
open Go.RowKit Num

/-- What has been summed: the chances of what accepts. -/
def covF (n D : Nat) (q : Rat) : Nat → Rat := fun d => if Acc n d D (q / 2) then pch n D d else 0
theorem covF_in {n D d : Nat} {q : Rat} (h : Acc n d D (q / 2)) : sumQ (covF n D q) (d + 1) = sumQ (covF n D q) d + pch n D d := by
  rw [sumQ_succ]
  unfold covF
  rw [if_pos h]
theorem covF_out {n D d : Nat} {q : Rat} (h : ¬ Acc n d D (q / 2)) : sumQ (covF n D q) (d + 1) = sumQ (covF n D q) d := by
  rw [sumQ_succ]
  unfold covF
  rw [if_neg h, Rat.add_zero]
theorem covF_one {n D : Nat} {q : Rat} (hn : 1 ≤ n) : sumQ (covF n D q) 1 = 0 := by
  have hp : pch n D 0 = 0 := by
    obtain ⟨m, rfl⟩ : ∃ m, n = m + 1 := ⟨n - 1, by omega⟩
    unfold pch
    rw [occ_step_zero, Rat.div_def]
    exact Rat.zero_mul _
  show (0 : Rat) + covF n D q 0 = 0
  unfold covF
  rw [hp]
  split <;> exact Rat.add_zero 0
theorem pch_fb {n D d : Nat} (hn : n ≤ 30) (hD : D ≤ 60) : FB (pch n D d) 130 := by
  have h := pchI_fbC (n := n) (D := D) hn hD (d : Int)
  unfold pchI at h
  rwa [if_neg (by omega), Int.toNat_natCast] at h
theorem covF_fb {n D k : Nat} {q : Rat} (hn : n ≤ 30) (hD : D ≤ 60) (hk : k ≤ 31) : FB (sumQ (covF n D q) k) 4100 :=
  (sumQ_fb (L := 130) fun j _ => by
    unfold covF
    split
    · exact pch_fb hn hD
    · exact fb_zero.mono (by omega)).mono (by omega)

set_option maxHeartbeats 8000000 in
theorem law_CCovers {n0 d0 : Int} {v1 : Value} {z1 : FracIn} {w : World} (hn0 : -9223372036854775808 ≤ n0 ∧ n0 ≤ 9223372036854775807) (hd0 : -9223372036854775808 ≤ d0 ∧ d0 ≤ 9223372036854775807) (h1 : KFrac w v1 z1) (ht : Tab10 w) :
    Calls Tryz.prog 6 #[.int .i64 n0, .int .i64 d0, v1] w (fun e w' => e = .returned (.bool true) ∧ Ext w w') := by
  obtain ⟨ng, nl, nv, dl, dv⟩ := z1
  obtain ⟨s, t, rfl, hs, hd⟩ := h1
  dsimp only at hs hd
  have HSL := Lib.hid (fun (w' : World) (h : Ext w w') => hs.below h)
  have HDL := Lib.hid (fun (w' : World) (h : Ext w w') => hd.below h)
  have HT := Lib.hid (fun (w' : World) (h : Ext w w') => ht.ext h)
  clear ht
  by_cases hf : nl ≤ 3 ∧ dl ≤ 3
  · have HX := Lib.hid (fun (w' : World) (h : Ext w w') => KFrac.any (z := ⟨ng, nl, nv, dl, dv⟩) (HSL.out _ h) (HDL.out _ h) (L := 3) hf.1 hf.2 (by omega))
    have HFW := Lib.hid hf
    clear hs hd
    dsimp only at HX
    obtain ⟨q, hq⟩ : ∃ q, q = frac ng nv dv := ⟨_, rfl⟩
    rw [← hq] at HX
    clear hq hf
    have HFQ := Lib.hid ((HX.out _ (Below.refl _ _)).fb (by omega))
    have HKA := Lib.hid (fun (n d m : Int) (w' : World) (h : Ext w w') => kaccepts_any (n := n) (d := d) (D := m) (HX.out _ h) (by omega) (by omega) (HT.out _ h))
    by_cases hq : Lvl q
    · have HRA := Lib.hid (fun (w' : World) (h : Ext w w') => (show Calls Tryz.prog 21 #[.agg #[.bool ng, s, t]] w' (fun e w'' => e = .returned (.bool true) ∧ Ext w' w'') from by
        have h0 := ralpha_n (HX.out _ h) (by omega) (by omega)
        rw [decide_eq_true hq] at h0
        exact h0))
      go_enter Tryz.func6, Tryz.ntmps6
      go_upto_region 1 with (fail)
      have hB0 := FBox.new w (.bool ng) (s) (t) 28
      have x0 : Ext w (w.alloc (.cells #[.bool ng, s, t] 28)) := ext_alloc (Below.refl _ _) _
      have hs0 : w.heap.size + 1 ≤ (w.alloc (.cells #[.bool ng, s, t] 28)).heap.size := by simp
      generalize (w.alloc (.cells #[.bool ng, s, t] 28)) = W0 at *
      have HB0 := Lib.hid (fun (w' : World) (h : Ext W0 w') => hB0.below h)
      obtain ⟨c00, c01, c02, d00, d01, d02⟩ := hB0
      have HE := Lib.hid x0
      clear x0
      have f0 : Ext W0 W0 := Below.refl _ _
      go_wp2_with fail
      refine (kawake (HT.out _ HE.out)).mono ?_
      rintro e U1 ⟨rfl, y1⟩
      obtain ⟨c00, c01, c02, _, _, _⟩ := HB0.out _ y1
      go_wp2_with fail
      refine (lfew_t (HSL.out _ (HE.out.trans y1)) (HDL.out _ (HE.out.trans y1)) HFW.out).mono ?_
      rintro e U2 ⟨rfl, y2⟩
      have y2 := Ext.trans y1 y2
      obtain ⟨c00, c01, c02, _, _, _⟩ := HB0.out _ y2
      go_wp2_with fail
      refine (HRA.out _ (HE.out.trans y2)).mono ?_
      rintro e U3 ⟨rfl, y3⟩
      have y3 := Ext.trans y2 y3
      have HEV := Lib.hid (HE.out.trans y3)
      go_wp2_with fail
      refine (mod_i (b := 24) (by omega) (by omega) hn0).mono ?_
      rintro e U4 ⟨i, hi, rfl, hw4⟩
      obtain rfl : U3 = U4 := hw4.symm
      obtain ⟨N, hN⟩ : ∃ N : Nat, N = i + 1 := ⟨_, rfl⟩
      have hwN : IntKind.i64.wrap (1 + (i : Int)) = (N : Int) := by rw [wrap_in (by omega)]; omega
      have hN1 : 1 ≤ N ∧ N ≤ 24 := by omega
      clear hi hN
      go_wp2_with fail
      refine (mod_i (b := 60) (by omega) (by omega) hd0).mono ?_
      rintro e U5 ⟨j, hj, rfl, hw5⟩
      obtain rfl : U3 = U5 := hw5.symm
      obtain ⟨D, hD⟩ : ∃ D : Nat, D = j + 1 := ⟨_, rfl⟩
      have hwD : IntKind.i64.wrap (1 + (j : Int)) = (D : Int) := by rw [wrap_in (by omega)]; omega
      have hD1 : 1 ≤ D ∧ D ≤ 60 := by omega
      clear hj hD
      have HPC := Lib.hid (fun (d : Nat) => (show pchI N D (d : Int) = pch N D d from by unfold pchI; rw [if_neg (by omega), Int.toNat_natCast]))
      have HCH := Lib.hid (fun (d : Nat) (w' : World) => (show Calls Tryz.prog 24 #[.int .i64 N, .int .i64 D, .int .i64 d] w' (GivesFE w' (pch N D d)) from by have h0 := ochance_ok (n := N) (D := D) (d := (d : Int)) (w := w') (by omega) hD1.1 hD1.2; rw [HPC.out] at h0; exact h0))
      have HAC := Lib.hid (fun (d : Nat) (g1 : 1 ≤ d) (g2 : d ≤ N) (w' : World) (h : Ext w w') => (show Calls Tryz.prog 14 #[.int .i64 N, .int .i64 d, .int .i64 D, .agg #[.bool ng, s, t]] w' (fun e w'' => e = .returned (.tuple #[.bool (decide (Acc N d D (q / 2))), .int .i64 0]) ∧ Ext w' w'') from by
        have h0 := HKA.out N d D w' h
        have hdin : DIn N d D := din_of hN1 ⟨g1, g2⟩ hD1
        rw [accE_ok hdin hq, accB_ok hdin hq] at h0
        exact h0))
      have HFS := Lib.hid (fun (k : Nat) (hk : k ≤ 31) => covF_fb (n := N) (D := D) (q := q) (k := k) (by omega) (by omega) hk)
      have HFP := Lib.hid (fun (d : Nat) => pch_fb (n := N) (D := D) (d := d) (by omega) (by omega))
      have HIN := Lib.hid (fun (d : Nat) (h : Acc N d D (q / 2)) => covF_in h)
      have HOUT := Lib.hid (fun (d : Nat) (h : ¬ Acc N d D (q / 2)) => covF_out h)
      have HEND := Lib.hid (show 0 ≤ cmpQ (sumQ (covF N D q) (N + 1) + q) one1 from by
        have h := covers (n := N) (D := D) (q := q) hN1.1 (by omega) (Rat.le_of_lt hq.1)
        have e : one1 = 1 := by decide +kernel
        have h2 : ¬ cmpQ (sumQ (covF N D q) (N + 1) + q) one1 < 0 := by
          rw [cmpQ_neg, e]
          have h3 : 1 ≤ sumQ (covF N D q) (N + 1) + q := h
          grind
        omega)
      go_wp2_with fail
      refine (fof_n (n := 0) (d := 1) (by omega) (by omega)).mono ?_
      rintro e w6 ⟨b6, A6, k6, c6, A6', k6', c6', rfl, h6, y6, n6, n6'⟩
      rw [zero_first, ← covF_one (n := N) (D := D) (q := q) hN1.1] at h6
      have hlo := y6.size
      go_upto_region 5 with (fail)
      have hG6 := FBox.new w6 (.bool b6) (.slice A6 k6 c6) (.slice A6' k6' c6') 28
      have Y6 : Ext U3 (w6.alloc (.cells #[.bool b6, .slice A6 k6 c6, .slice A6' k6' c6'] 28)) := ext_alloc y6 _
      have h6 := h6.below (ext_alloc (Below.refl _ _) (.cells #[.bool b6, .slice A6 k6 c6, .slice A6' k6' c6'] 28))
      have hsz6 : w6.heap.size < (w6.alloc (.cells #[.bool b6, .slice A6 k6 c6, .slice A6' k6' c6'] 28)).heap.size := by simp
      generalize w6.alloc (.cells #[.bool b6, .slice A6 k6 c6, .slice A6' k6' c6'] 28) = W6 at *
      generalize w6.heap.size = B6 at *
      go_wp2
      go_loopw [8] (fun iv wr => ∃ d : Nat, d ≤ N ∧ iv = .int .i64 ((d : Int) + 1) ∧ FIs U3 wr B6 (sumQ (covF N D q) (d + 1))) (fun iv _ => N + 1 - (intOf iv).toNat)
      case atStart => exact ⟨0, Nat.zero_le _, rfl, b6, A6, k6, c6, A6', k6', c6', hG6, h6, Y6, n6, n6'⟩
      case round =>
        clear hG6 h6 Y6 n6 n6' hsz6 c00 c01 c02
        obtain ⟨d, hd, rfl, cc, MA, mk, ml, MA', mk', ml', hM, vM, xM, nM, nM'⟩ := hrel
        have y7 := y3.trans xM
        obtain ⟨c00, c01, c02, _, _, _⟩ := HB0.out _ y7
        have HM2 := Lib.hid (fun (w' : World) (h : Ext wr w') => hM.below h)
        have HMV := Lib.hid (fun (w' : World) (h : Ext wr w') => vM.below h)
        have hMl := hM.lt
        have hX := xM
        clear vM
        by_cases hdN : d < N
        · have hb1 : (d : Int) + 1 ≤ (N : Int) := by omega
          have hw1 : IntKind.i64.wrap ((d : Int) + 1 + 1) = (d : Int) + 1 + 1 := wrap_in (by omega)
          have HKQ := Lib.hid (fun (w' : World) (h : Ext w w') => HAC.out (d + 1) (by omega) (by omega) w' h)
          have HKC := Lib.hid (fun (w' : World) => HCH.out (d + 1) w')
          rw [show ((d + 1 : Nat) : Int) = (d : Int) + 1 from by omega] at HKQ HKC
          have HI2 := Lib.hid (fun h => HIN.out (d + 1) h)
          have HO2 := Lib.hid (fun h => HOUT.out (d + 1) h)
          have HF1 := Lib.hid (HFP.out (d + 1))
          have HFS1 := Lib.hid (HFS.out (d + 1) (by omega))
          obtain ⟨S1, hS1⟩ : ∃ S1, S1 = sumQ (covF N D q) (d + 1) := ⟨_, rfl⟩
          obtain ⟨S2, hS2⟩ : ∃ S2, S2 = sumQ (covF N D q) (d + 1 + 1) := ⟨_, rfl⟩
          obtain ⟨p, hp⟩ : ∃ p, p = pch N D (d + 1) := ⟨_, rfl⟩
          rw [← hS1, ← hS2, ← hp] at HI2
          rw [← hS1, ← hS2] at HO2
          rw [← hS1] at HMV HFS1
          rw [← hp] at HKC HF1
          have HS2 := Lib.hid hS2
          clear hS1 hp hS2 hM
          by_cases ha : Acc N (d + 1) D (q / 2)
          · have HST := Lib.hid (HI2.out ha)
            rw [decide_eq_true ha] at HKQ
            clear ha HI2 HO2
            go_wp2_with fail
            refine (HKQ.out _ (HEV.out.trans xM)).mono ?_
            rintro e U6 ⟨rfl, x6⟩
            go_wp2_with fail
            refine (HKC.out _).mono ?_
            rintro e w1 ⟨b1, A1, k1, c1, A1', k1', c1', rfl, h1, y1, n1, n1'⟩
            clear n1 n1'
            go_upto_region 10 with (fail)
            have hG1 := FBox.new w1 (.bool b1) (.slice A1 k1 c1) (.slice A1' k1' c1') 28
            have Y1 : Ext U6 (w1.alloc (.cells #[.bool b1, .slice A1 k1 c1, .slice A1' k1' c1'] 28)) := ext_alloc y1 _
            have h1 := h1.below (ext_alloc (Below.refl _ _) (.cells #[.bool b1, .slice A1 k1 c1, .slice A1' k1' c1'] 28))
            have hsz1 : w1.heap.size < (w1.alloc (.cells #[.bool b1, .slice A1 k1 c1, .slice A1' k1' c1'] 28)).heap.size := by simp
            generalize w1.alloc (.cells #[.bool b1, .slice A1 k1 c1, .slice A1' k1' c1'] 28) = W1 at *
            generalize w1.heap.size = B1 at *
            have HG1 := Lib.hid (fun (w' : World) (h : Ext W1 w') => hG1.below h)
            have HP1 := Lib.hid (fun (w' : World) (h : Ext W1 w') => FracV.any (h1.below h) (HF1.out) (by omega))
            have HB1 := Lib.hid (fun (w' : World) (h : Ext W1 w') => h1.below h)
            clear hG1 h1 y1 hsz1
            have z1 := x6.trans Y1
            obtain ⟨m0, m1, m2, gm0, gm1, gm2⟩ := HM2.out _ z1
            obtain ⟨p0, p1, p2, _, _, _⟩ := HG1.out _ (Below.refl _ _)
            have hsz := z1.size
            go_wp2_with (go_at_call 25; (with_reducible refine (add_f (FracV.any (HMV.out _ z1) HFS1.out (by omega)) (HP1.out _ (Below.refl _ _)) HFS1.out HF1.out (by omega)).mono ?_); rintro _ s3 ⟨b3, A3, k3, c3, B3, l3, d3, rfl, h3, z3, n3, m3⟩; have f3 := z1.trans z3; obtain ⟨m0, m1, m2, gm0, gm1, gm2⟩ := HM2.out _ f3)
            rw [← HST.out] at h3
            go_roundw
            all_goals first
              | exact ⟨d + 1, by omega, by go_num, b3, A3, k3, c3, B3, l3, d3, (HM2.out _ f3).put _ _ _, by rw [← HS2.out]; exact FracV.put h3 n3 m3 (by omega) _ _ _, ext_put (hX.trans f3) hlo _ _ _, n3.mono (by have := hX.size; omega), m3.mono (by have := hX.size; omega)⟩
              | (simp [intOf]; omega)
          · have HST := Lib.hid (HO2.out ha)
            rw [decide_eq_false ha] at HKQ
            clear ha HI2 HO2
            go_wp2_with fail
            refine (HKQ.out _ (HEV.out.trans xM)).mono ?_
            rintro e U6 ⟨rfl, x6⟩
            go_wp2_with fail
            refine (HKC.out _).mono ?_
            rintro e w1 ⟨b1, A1, k1, c1, A1', k1', c1', rfl, h1, y1, n1, n1'⟩
            clear n1 n1'
            go_upto_region 10 with (fail)
            have hG1 := FBox.new w1 (.bool b1) (.slice A1 k1 c1) (.slice A1' k1' c1') 28
            have Y1 : Ext U6 (w1.alloc (.cells #[.bool b1, .slice A1 k1 c1, .slice A1' k1' c1'] 28)) := ext_alloc y1 _
            have h1 := h1.below (ext_alloc (Below.refl _ _) (.cells #[.bool b1, .slice A1 k1 c1, .slice A1' k1' c1'] 28))
            have hsz1 : w1.heap.size < (w1.alloc (.cells #[.bool b1, .slice A1 k1 c1, .slice A1' k1' c1'] 28)).heap.size := by simp
            generalize w1.alloc (.cells #[.bool b1, .slice A1 k1 c1, .slice A1' k1' c1'] 28) = W1 at *
            generalize w1.heap.size = B1 at *
            have HG1 := Lib.hid (fun (w' : World) (h : Ext W1 w') => hG1.below h)
            have HP1 := Lib.hid (fun (w' : World) (h : Ext W1 w') => FracV.any (h1.below h) (HF1.out) (by omega))
            have HB1 := Lib.hid (fun (w' : World) (h : Ext W1 w') => h1.below h)
            clear hG1 h1 y1 hsz1
            have z1 := x6.trans Y1
            go_wp2
            go_roundw
            all_goals first
              | exact ⟨d + 1, by omega, by go_num, cc, MA, mk, ml, MA', mk', ml', HM2.out _ z1, by rw [← HS2.out, HST.out]; exact HMV.out _ z1, hX.trans z1, nM, nM'⟩
              | (simp [intOf]; omega)
        · obtain rfl : d = N := by omega
          have hb1 : ¬ ((d : Int) + 1 ≤ (d : Int)) := by omega
          obtain ⟨m0, m1, m2, gm0, gm1, gm2⟩ := hM
          have HFS1 := Lib.hid (HFS.out (d + 1) (by omega))
          obtain ⟨S1, hS1⟩ : ∃ S1, S1 = sumQ (covF d D q) (d + 1) := ⟨_, rfl⟩
          rw [← hS1] at HFS1 HMV HEND
          have HFT := Lib.hid (FB.add HFS1.out HFQ.out (by omega))
          obtain ⟨T, hT⟩ : ∃ T, S1 + q = T := ⟨_, rfl⟩
          rw [hT] at HEND HFT
          obtain ⟨z, hz⟩ : ∃ z, cmpQ T one1 = z := ⟨_, rfl⟩
          rw [hz] at HEND
          have HZ := Lib.hid hz
          have HTT := Lib.hid hT
          have e1 : decide (0 ≤ z) = true := decide_eq_true HEND.out
          clear hS1 hT hz
          have XR : Ext w wr := HEV.out.trans xM
          go_wp2_with (first
            | (go_at_call 25; (with_reducible refine (add_f (FracV.any (HMV.out _ (Below.refl _ _)) HFS1.out (by omega)) (HX.out _ XR) HFS1.out HFQ.out (by omega)).mono ?_); rw [HTT.out]; rintro _ s3 ⟨b3, A3, k3, c3, B3, l3, d3, rfl, h3, z3, _, _⟩)
            | (go_at_call 23; (with_reducible refine (fof_n (n := 1) (d := 1) (by omega) (by omega)).mono ?_); rintro _ s4 ⟨b4, A4, k4, c4, B4, l4, d4, rfl, h4, z4, _, _⟩; have h4 : FracV s4 b4 (.slice A4 k4 c4) (.slice B4 l4 d4) one1 := h4)
            | (go_at_call 26; (with_reducible refine (cmp_e (FracV.any (h3.below z4) HFT.out (by omega)) (FracV.any h4 one1_fb (by omega)) (by omega) HZ.out).mono ?_); rintro _ s5 ⟨rfl, z5⟩))
          go_ret
          exact ⟨by first | rfl | simp [e1], XR.trans (z3.trans (z4.trans z5))⟩
    · have HRA := Lib.hid (fun (w' : World) (h : Ext w w') => (show Calls Tryz.prog 21 #[.agg #[.bool ng, s, t]] w' (fun e w'' => e = .returned (.bool false) ∧ Ext w' w'') from by
        have h0 := ralpha_n (HX.out _ h) (by omega) (by omega)
        rw [decide_eq_false hq] at h0
        exact h0))
      go_enter Tryz.func6, Tryz.ntmps6
      go_upto_region 1 with (fail)
      have hB0 := FBox.new w (.bool ng) (s) (t) 28
      have x0 : Ext w (w.alloc (.cells #[.bool ng, s, t] 28)) := ext_alloc (Below.refl _ _) _
      have hs0 : w.heap.size + 1 ≤ (w.alloc (.cells #[.bool ng, s, t] 28)).heap.size := by simp
      generalize (w.alloc (.cells #[.bool ng, s, t] 28)) = W0 at *
      have HB0 := Lib.hid (fun (w' : World) (h : Ext W0 w') => hB0.below h)
      obtain ⟨c00, c01, c02, d00, d01, d02⟩ := hB0
      have HE := Lib.hid x0
      clear x0
      have f0 : Ext W0 W0 := Below.refl _ _
      go_wp2_with fail
      refine (kawake (HT.out _ HE.out)).mono ?_
      rintro e U1 ⟨rfl, y1⟩
      obtain ⟨c00, c01, c02, _, _, _⟩ := HB0.out _ y1
      go_wp2_with fail
      refine (lfew_t (HSL.out _ (HE.out.trans y1)) (HDL.out _ (HE.out.trans y1)) HFW.out).mono ?_
      rintro e U2 ⟨rfl, y2⟩
      have y2 := Ext.trans y1 y2
      obtain ⟨c00, c01, c02, _, _, _⟩ := HB0.out _ y2
      go_wp2_with fail
      refine (HRA.out _ (HE.out.trans y2)).mono ?_
      rintro e U3 ⟨rfl, y3⟩
      have y3 := Ext.trans y2 y3
      go_wp2_with fail
      refine (kawake (HT.out _ (HE.out.trans y3))).mono ?_
      rintro e U4 ⟨rfl, y4⟩
      go_wp2
      go_ret
      exact ⟨rfl, HE.out.trans (y3.trans y4)⟩
  · clear hs hd
    have HFW := Lib.hid hf
    clear hf
    go_enter Tryz.func6, Tryz.ntmps6
    go_upto_region 1 with (fail)
    have hB0 := FBox.new w (.bool ng) (s) (t) 28
    have x0 : Ext w (w.alloc (.cells #[.bool ng, s, t] 28)) := ext_alloc (Below.refl _ _) _
    have hs0 : w.heap.size + 1 ≤ (w.alloc (.cells #[.bool ng, s, t] 28)).heap.size := by simp
    generalize (w.alloc (.cells #[.bool ng, s, t] 28)) = W0 at *
    have HB0 := Lib.hid (fun (w' : World) (h : Ext W0 w') => hB0.below h)
    obtain ⟨c00, c01, c02, d00, d01, d02⟩ := hB0
    have HE := Lib.hid x0
    clear x0
    have f0 : Ext W0 W0 := Below.refl _ _
    go_wp2_with fail
    refine (kawake (HT.out _ HE.out)).mono ?_
    rintro e U1 ⟨rfl, y1⟩
    obtain ⟨c00, c01, c02, _, _, _⟩ := HB0.out _ y1
    go_wp2_with fail
    refine (lfew_f (HSL.out _ (HE.out.trans y1)) (HDL.out _ (HE.out.trans y1)) HFW.out).mono ?_
    rintro e U2 ⟨rfl, y2⟩
    have y2 := Ext.trans y1 y2
    go_wp2_with fail
    refine (kawake (HT.out _ (HE.out.trans y2))).mono ?_
    rintro e U3 ⟨rfl, y3⟩
    go_wp2
    go_ret
    exact ⟨rfl, HE.out.trans (y2.trans y3)⟩

end Go.Proofs.YtjdpkmngboiemaaGreatDoor
