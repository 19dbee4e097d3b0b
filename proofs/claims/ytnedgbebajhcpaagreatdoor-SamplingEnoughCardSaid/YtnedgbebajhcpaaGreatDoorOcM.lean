/- The reference's power, Mean, Singles, Unequal; the errors of the program's. -/
import Derived.Test.YtnedgbebajhcpaaGreatDoorOcRD
import Derived.Test.YtnedgbebajhcpaaGreatDoorOcS
import Derived.Test.YtnedgbebajhcpaaGreatDoorOccC
import Derived.Test.YtnedgbebajhcpaaGreatDoorRFracN
set_option linter.unusedVariables false
set_option linter.unusedSimpArgs false
set_option maxRecDepth 100000
namespace Go.Proofs.YtnedgbebajhcpaaGreatDoor
open Go.RowKit Num

theorem one_first : ((1 : Int) : Rat) / ((1 : Int) : Rat) = 1 := by decide +kernel
theorem pw_fb {q : Rat} {L : Nat} (h : FB q L) : ∀ n, FB (pw q n) (3 + L * n)
  | 0 => by
    have h1 : FB (((1 : Int) : Rat) / ((1 : Int) : Rat)) 3 := fb_i64 (by omega) (by omega)
    rw [one_first] at h1
    exact h1.mono (by omega)
  | n + 1 => (FB.mul (pw_fb h n) h (by omega)).mono (by rw [Nat.mul_succ]; omega)

def mterm (n D d : Nat) : Rat := ((d : Int) : Rat) / ((1 : Int) : Rat) * pchI n D (d : Int)
theorem mterm_sum {n D : Nat} (hD : 0 < D) : sumQ (mterm n D) (n + 1) = meanQ n D := (cmpQ_zero _ _).1 (sums_mean hD)

set_option maxHeartbeats 4000000 in
theorem rmean_ok {n D : Nat} {w : World} (hn : n ≤ 30) (hD1 : 1 ≤ D) (hD : D ≤ 60) :
    Calls Tryz.prog 24 #[.int .i64 n, .int .i64 D] w (GivesFE w (meanQ n D)) := by
  have HFP := Lib.hid (fun k => pchI_small (n := n) (D := D) hn hD k)
  have HF1 := Lib.hid (fun (k : Nat) (hk : k ≤ n) => (show FB (((k : Int) : Rat) / ((1 : Int) : Rat)) 3 from fb_i64 (by omega) (by omega)))
  have HFT := Lib.hid (fun (k : Nat) (hk : k ≤ n) => (show FB (mterm n D k) 133 from FB.mul (HF1.out k hk) (HFP.out (k : Int)) (by omega)))
  have HB := Lib.hid (fun k (hk : k ≤ n + 1) => (sumQ_fb (f := mterm n D) (L := 133) (n := k) fun j hj => HFT.out j (by omega)).mono (M := 200000) (by have : 134 * k ≤ 134 * 31 := Nat.mul_le_mul_left _ (by omega); omega))
  have HSUM := Lib.hid (mterm_sum (n := n) (D := D) (by omega))
  go_enter Tryz.func24, Tryz.ntmps24
  go_upto_region 1 with (fail)
  have hF0 := FBox.new w (.bool false) (.slice none 0 0) (.slice none 0 0) 27
  have x0 : Ext w (w.alloc (.cells #[.bool false, .slice none 0 0, .slice none 0 0] 27)) := ext_alloc (Below.refl _ _) _
  have hs0 : w.heap.size + 1 ≤ (w.alloc (.cells #[.bool false, .slice none 0 0, .slice none 0 0] 27)).heap.size := by simp
  generalize w.alloc (.cells #[.bool false, .slice none 0 0, .slice none 0 0] 27) = W0 at *
  have HF := Lib.hid (fun (w' : World) (h : Ext W0 w') => hF0.below h)
  have HE := Lib.hid x0
  have f0 : Ext W0 W0 := Below.refl _ _
  obtain ⟨r0, r1, r2, g0, g1, g2⟩ := hF0
  clear x0
  go_wp2_with fail
  refine (rdist_ok (n := n) (D := D) hn hD1 hD).mono ?_
  rintro e w1 ⟨A1, c1, rfl, hl1, y1, n1⟩
  rw [uptoQ_length] at hl1 n1 ⊢
  have HL := Lib.hid (fun (w' : World) (h : Ext w1 w') => hl1.ext h)
  clear hl1 n1
  go_wp2_with fail
  refine (rfof_n (n := 0) (d := 1) (by omega) (by omega)).mono ?_
  rintro e w6 ⟨b6, A6, k6, c6, A6', k6', c6', rfl, h6, y6, n6, n6'⟩
  rw [zero_first] at h6
  have hlo : w1.heap.size ≤ w6.heap.size := y6.size
  go_wp2
  have hG6 := FBox.new w6 (.bool b6) (.slice A6 k6 c6) (.slice A6' k6' c6') 27
  have Y6 : Ext w1 (w6.alloc (.cells #[.bool b6, .slice A6 k6 c6, .slice A6' k6' c6'] 27)) := ext_alloc y6 _
  have h6 := h6.below (ext_alloc (Below.refl _ _) (.cells #[.bool b6, .slice A6 k6 c6, .slice A6' k6' c6'] 27))
  have hsz6 : w6.heap.size < (w6.alloc (.cells #[.bool b6, .slice A6 k6 c6, .slice A6' k6' c6'] 27)).heap.size := by simp
  generalize w6.alloc (.cells #[.bool b6, .slice A6 k6 c6, .slice A6' k6' c6'] 27) = W6 at *
  generalize w6.heap.size = B6 at *
  go_loopw [9] (fun iv wr => ∃ k : Nat, k ≤ n + 1 ∧ iv = .int .i64 k ∧ FIs w1 wr B6 (sumQ (mterm n D) k)) (fun iv _ => n + 1 - (intOf iv).toNat)
  case atStart => exact ⟨0, Nat.zero_le _, rfl, b6, A6, k6, c6, A6', k6', c6', hG6, h6, Y6, n6, n6'⟩
  case round =>
    clear hG6 h6 Y6 n6 n6'
    obtain ⟨k, hk, rfl, cc, MA, mk, ml, MA', mk', ml', hM, vM, xM, nM, nM'⟩ := hrel
    have HM := Lib.hid (fun (w' : World) (h : Ext wr w') => hM.below h)
    have hMl := hM.lt
    obtain ⟨m0, m1, m2, gm0, gm1, gm2⟩ := hM
    have hX := xM
    by_cases hkl : k < n + 1
    · have HMV := Lib.hid (fun (w' : World) (h : Ext wr w') => FracV.any (vM.below h) (HB.out k (by omega)) (by omega))
      obtain ⟨b, o, neg, A2, k2, c2, A3, k3, c3, rfl, hb, e0, e1, e2, fv, _, _⟩ := (HL.out _ hX).at_ (k := k) (uptoQ_at hkl)
      have HFV := Lib.hid (fun (w' : World) (h : Ext wr w') => FracV.any (fv.below h) (HFP.out (k : Int)) (by omega))
      have HS := Lib.hid (fun (w' : World) (h : Ext wr w') => And.intro (And.intro (HM.out _ h).1 (And.intro (HM.out _ h).2.1 (HM.out _ h).2.2.1)) (show w'.cell? ⟨b, o + k * 3, none⟩ = some (.bool neg) ∧ w'.cell? ⟨b, o + k * 3 + 1, none⟩ = some (.slice A2 k2 c2) ∧ w'.cell? ⟨b, o + k * 3 + 2, none⟩ = some (.slice A3 k3 c3) from ⟨(h.cell (p := ⟨b, o + k * 3, none⟩) hb).trans e0, (h.cell (p := ⟨b, o + k * 3 + 1, none⟩) hb).trans e1, (h.cell (p := ⟨b, o + k * 3 + 2, none⟩) hb).trans e2⟩))
      have hi1 : (0 : Int) ≤ (k : Int) := by omega
      have hi2 : (k : Int) < (n : Int) + 1 := by omega
      clear vM fv e0 e1 e2
      go_upto_region 8 with (fail)
      refine wp_region_G (fun w' => Ext wr w') [9] (by kernel_rfl) ?_
      have gS : Ext wr wr.drew := (Below.refl _ _).drew
      refine wpAnyG_take 0 (v := ?_) rfl (by kernel_rfl) (by kernel_rfl) (by kernel_rfl) (by kernel_rfl) (by rfl) (by kernel_rfl) (fun _ _ _ h => h) (by rfl) (fun w' hw' => ?_) gS ?_
      rotate_left
      focus (have hh := HS.out _ hw'; go_split_ands; go_simp; (try with_reducible rfl); done)
      (try simp only [Act.put, List.getElem_toArray, List.getElem_cons_succ, List.getElem_cons_zero, List.setIfInBounds_toArray, List.set_cons_zero, List.set_cons_succ])
      refine wpAnyG_take 1 (v := ?_) rfl (by kernel_rfl) (by kernel_rfl) (by kernel_rfl) (by kernel_rfl) (by rfl) (by kernel_rfl) (fun _ _ _ h => h) (by rfl) (fun w' hw' => ?_) gS ?_
      rotate_left
      focus (go_simp; (try with_reducible rfl); done)
      (try simp only [Act.put, List.getElem_toArray, List.getElem_cons_succ, List.getElem_cons_zero, List.setIfInBounds_toArray, List.set_cons_zero, List.set_cons_succ])
      refine wpAnyG_take 3 (v := ?_) rfl (by kernel_rfl) (by kernel_rfl) (by kernel_rfl) (by kernel_rfl) (by rfl) (by kernel_rfl) (fun _ _ _ h => h) (by rfl) (fun w' hw' => ?_) gS ?_
      rotate_left
      focus (go_simp; (try with_reducible rfl); done)
      (try simp only [Act.put, List.getElem_toArray, List.getElem_cons_succ, List.getElem_cons_zero, List.setIfInBounds_toArray, List.set_cons_zero, List.set_cons_succ])
      refine wpAnyG_take 4 (v := ?_) rfl (by kernel_rfl) (by kernel_rfl) (by kernel_rfl) (by kernel_rfl) (by rfl) (by kernel_rfl) (fun _ _ _ h => h) (by rfl) (fun w' hw' => ?_) gS ?_
      rotate_left
      focus (go_simp; (try with_reducible rfl); done)
      (try simp only [Act.put, List.getElem_toArray, List.getElem_cons_succ, List.getElem_cons_zero, List.setIfInBounds_toArray, List.set_cons_zero, List.set_cons_succ])
      refine wpAnyG_take 5 (v := ?_) rfl (by kernel_rfl) (by kernel_rfl) (by kernel_rfl) (by kernel_rfl) (by rfl) (by kernel_rfl) (fun _ _ _ h => h) (by rfl) (fun w' hw' => ?_) gS ?_
      rotate_left
      focus (go_simp; (try with_reducible rfl); done)
      (try simp only [Act.put, List.getElem_toArray, List.getElem_cons_succ, List.getElem_cons_zero, List.setIfInBounds_toArray, List.set_cons_zero, List.set_cons_succ])
      refine wpAnyG_take 6 (v := ?_) rfl (by kernel_rfl) (by kernel_rfl) (by kernel_rfl) (by kernel_rfl) (by rfl) (by kernel_rfl) (fun _ _ _ h => h) (by rfl) (fun w' hw' => ?_) gS ?_
      rotate_left
      focus (have hh := HS.out _ hw'; go_split_ands; go_simp; (try with_reducible rfl); done)
      (try simp only [Act.put, List.getElem_toArray, List.getElem_cons_succ, List.getElem_cons_zero, List.setIfInBounds_toArray, List.set_cons_zero, List.set_cons_succ])
      refine wpAnyG_one 2 (by kernel_rfl) rfl (by rfl) (fun K hK => ?_)
      go_simp
      go_at_call 35
      refine (rfof_n (n := (k : Int)) (d := 1) (by omega) (by omega)).mono ?_
      rintro _ s1 ⟨b4, A4, k4, c4, B4, l4, d4, rfl, h4, z4, _⟩
      have gS : Ext wr s1 := Ext.trans gS z4
      (try go_wp2_with fail)
      refine hK.out _ _ (fun _ => gS) ?_
      clear hK K
      (try simp only [Act.put, List.getElem_toArray, List.getElem_cons_succ, List.getElem_cons_zero, List.setIfInBounds_toArray, List.set_cons_zero, List.set_cons_succ])
      refine wpAnyG_one 7 (by kernel_rfl) rfl (by rfl) (fun K hK => ?_)
      go_simp
      go_at_call 41
      refine (rmul_f (FracV.any h4 (HF1.out k (by omega)) (by omega)) (HFV.out _ gS) (by omega)).mono ?_
      rintro _ s2 ⟨b5, A5, k5, c5, B5, l5, d5, rfl, h5, z5, _⟩
      have gS : Ext wr s2 := Ext.trans gS z5
      (try go_wp2_with fail)
      refine hK.out _ _ (fun _ => gS) ?_
      clear hK K
      (try simp only [Act.put, List.getElem_toArray, List.getElem_cons_succ, List.getElem_cons_zero, List.setIfInBounds_toArray, List.set_cons_zero, List.set_cons_succ])
      refine wpAnyG_one 8 (by kernel_rfl) rfl (by rfl) (fun K hK => ?_)
      go_simp
      go_at_call 36
      refine (radd_f (HMV.out _ gS) (FracV.any h5 (HFT.out k (by omega)) (by omega)) (HB.out k (by omega)) (HFT.out k (by omega)) (by omega)).mono ?_
      rintro _ s3 ⟨b8, A8, k8, c8, B8, l8, d8, rfl, h8, z8, n8, m8⟩
      have hg2 := gS.size
      have gS : Ext wr s3 := Ext.trans gS z8
      have f2 := gS
      obtain ⟨m0, m1, m2, gm0, gm1, gm2⟩ := HM.out _ gS
      (try go_wp2_with fail)
      refine hK.out _ _ (fun _ => gS) ?_
      clear hK K
      (try simp only [Act.put, List.getElem_toArray, List.getElem_cons_succ, List.getElem_cons_zero, List.setIfInBounds_toArray, List.set_cons_zero, List.set_cons_succ])
      refine wpAnyG_one 9 (by kernel_rfl) rfl (by rfl) (fun K hK => ?_)
      (try simp only [List.getElem_toArray, List.getElem_cons_succ, List.getElem_cons_zero])
      go_simp
      refine hK.out _ _ (fun h => absurd h (by decide)) ?_
      clear hK K
      (try simp only [Act.put, List.getElem_toArray, List.getElem_cons_succ, List.getElem_cons_zero, List.setIfInBounds_toArray, List.set_cons_zero, List.set_cons_succ])
      refine wpAnyG_done (by kernel_rfl) ?_ _
      go_wp2
      go_roundw
      all_goals first
        | exact ⟨k + 1, by omega, by go_num, b8, A8, k8, c8, B8, l8, d8, (HM.out _ f2).put _ _ _, FracV.put h8 n8 m8 (by omega) _ _ _, ext_put (hX.trans f2) (by omega) _ _ _, n8.mono (by have := hX.size; omega), m8.mono (by have := hX.size; omega)⟩
        | (simp [intOf]; omega)
    · obtain rfl : k = n + 1 := by omega
      have hb1 : ¬ ((n : Int) + 1 < (n : Int) + 1) := by omega
      obtain ⟨r0, r1, r2, g0, g1, g2⟩ := HF.out _ (y1.trans xM)
      rw [HSUM.out] at vM
      go_wp2
      obtain ⟨q0, q1, q2⟩ := set3 r0 r1 r2 (.bool cc) (.slice MA mk ml) (.slice MA' mk' ml')
      refine bodyPost_ret (v := .tuple #[.agg #[.bool cc, .slice MA mk ml, .slice MA' mk' ml'], .int .i64 0]) (by simp [results, Tryz.results24, go_sem, q0, q1, q2]) rfl ?_
      have hy1 := y1.size
      exact GivesFE.box (HE.out.trans (y1.trans xM)) vM (nM.mono (by omega)) (nM'.mono (by omega)) (Nat.le_refl _)
set_option maxHeartbeats 2000000 in
theorem rmean_no {n D : Int} {w : World} (h : ¬ OccIn n D) : Calls Tryz.prog 24 #[.int .i64 n, .int .i64 D] w (GivesFN w 2) := by
  go_enter Tryz.func24, Tryz.ntmps24
  go_upto_region 1 with (fail)
  have hF0 := FBox.new w (.bool false) (.slice none 0 0) (.slice none 0 0) 27
  have x0 : Ext w (w.alloc (.cells #[.bool false, .slice none 0 0, .slice none 0 0] 27)) := ext_alloc (Below.refl _ _) _
  have hs0 : w.heap.size + 1 ≤ (w.alloc (.cells #[.bool false, .slice none 0 0, .slice none 0 0] 27)).heap.size := by simp
  generalize w.alloc (.cells #[.bool false, .slice none 0 0, .slice none 0 0] 27) = W0 at *
  have HF := Lib.hid (fun (w' : World) (h : Ext W0 w') => hF0.below h)
  have HE := Lib.hid x0
  have f0 : Ext W0 W0 := Below.refl _ _
  obtain ⟨r0, r1, r2, g0, g1, g2⟩ := hF0
  clear x0
  go_wp2_with (go_at_call 48; (with_reducible refine (rdist_no h).mono ?_); rintro e w1 ⟨A1, c1, rfl, h1, y1, n1⟩; obtain ⟨r0, r1, r2, g0, g1, g2⟩ := HF.out _ y1)
  obtain ⟨q0, q1, q2⟩ := set3 r0 r1 r2 (.bool false) (.slice none 0 0) (.slice none 0 0)
  refine bodyPost_ret (v := .tuple #[.agg #[.bool false, .slice none 0 0, .slice none 0 0], .int .i64 2]) (by simp [results, Tryz.results24, go_sem, q0, q1, q2]) rfl ?_
  exact ⟨rfl, ext_put (HE.out.trans y1) (Nat.le_refl _) _ _ _⟩

/-- The share of the other dies, and its power. -/
def rest1 (D : Nat) : Rat := (((D : Int) - 1 : Int) : Rat) / ((D : Int) : Rat)
theorem rest1_eq {D : Nat} (hD : 1 ≤ D) : rest1 D = (((D - 1 : Nat) : Rat)) / (D : Rat) := by
  unfold rest1
  rw [show (D : Int) - 1 = ((D - 1 : Nat) : Int) from by omega, Rat.intCast_natCast, Rat.intCast_natCast]
theorem sumQ_const (c : Rat) : ∀ n : Nat, sumQ (fun _ => c) n = ((n : Int) : Rat) / ((1 : Int) : Rat) * c
  | 0 => by
    show (0 : Rat) = ((0 : Int) : Rat) / ((1 : Int) : Rat) * c
    rw [zero_first]; grind
  | n + 1 => by
    rw [sumQ_succ, sumQ_const c n, Int.natCast_add, Rat.intCast_add]
    have e : (((1 : Nat) : Int) : Rat) = 1 := rfl
    have e1 : ((1 : Int) : Rat) = 1 := rfl
    rw [e, e1]
    simp only [Rat.div_def]
    grind
def singV (n D : Nat) : Rat := sumQ (fun _ => pw (rest1 D) (n - 1)) n
theorem singV_eq {n D : Nat} (hD : 1 ≤ D) : singV n D = singlesQ n D := by
  unfold singV singlesQ
  have h := powQ_pw (u := 1) (T := D) (n := n - 1) hD (by omega)
  rw [show ((1 : Nat) : Int) = 1 from rfl] at h
  rw [sumQ_const, rest1_eq hD, h]

set_option maxHeartbeats 2000000 in
theorem omean_no {n D : Int} {w : World} (h : ¬ OccIn n D) : Calls Tryz.prog 20 #[.int .i64 n, .int .i64 D] w (GivesFN w 2) := by
  go_enter Tryz.func20, Tryz.ntmps20
  go_upto_region 1 with (fail)
  have hF0 := FBox.new w (.bool false) (.slice none 0 0) (.slice none 0 0) 27
  have x0 : Ext w (w.alloc (.cells #[.bool false, .slice none 0 0, .slice none 0 0] 27)) := ext_alloc (Below.refl _ _) _
  have hs0 : w.heap.size + 1 ≤ (w.alloc (.cells #[.bool false, .slice none 0 0, .slice none 0 0] 27)).heap.size := by simp
  generalize w.alloc (.cells #[.bool false, .slice none 0 0, .slice none 0 0] 27) = W0 at *
  have HF := Lib.hid (fun (w' : World) (h : Ext W0 w') => hF0.below h)
  have HE := Lib.hid x0
  have f0 : Ext W0 W0 := Below.refl _ _
  obtain ⟨r0, r1, r2, g0, g1, g2⟩ := hF0
  clear x0
  go_wp2_with (go_at_call 45; (with_reducible refine (ocheck_no h).mono ?_); rintro e w1 ⟨rfl, rfl⟩)
  obtain ⟨q0, q1, q2⟩ := set3 r0 r1 r2 (.bool false) (.slice none 0 0) (.slice none 0 0)
  refine bodyPost_ret (v := .tuple #[.agg #[.bool false, .slice none 0 0, .slice none 0 0], .int .i64 2]) (by simp [results, Tryz.results20, go_sem, q0, q1, q2]) rfl ?_
  exact ⟨rfl, ext_put HE.out (Nat.le_refl _) _ _ _⟩
end Go.Proofs.YtnedgbebajhcpaaGreatDoor
