/- sampling: Expected's errors; the reference's Expected. -/
import Derived.Test.YtnedgbebajhcpaaGreatDoorSamV
import Derived.Test.YtnedgbebajhcpaaGreatDoorOcM
set_option linter.unusedVariables false
set_option linter.unusedSimpArgs false
set_option maxRecDepth 100000
namespace Go.Proofs.YtnedgbebajhcpaaGreatDoor
open Go.RowKit Num

def ExpIn (n D m : Int) : Prop := (0 ≤ n ∧ n ≤ 30) ∧ (0 ≤ m ∧ m ≤ 30 - n) ∧ 1 ≤ D ∧ D ≤ 60
theorem sexp_no {n D m : Int} {w : World} (h : ¬ ExpIn n D m) : Calls Tryz.prog 7 #[.int .i64 n, .int .i64 D, .int .i64 m] w (GivesFN w 2) := by
  unfold ExpIn at h
  by_cases h1 : 0 ≤ n ∧ n ≤ 30
  · have hw1 : IntKind.i64.wrap (30 - n) = 30 - n := wrap_in (by omega)
    by_cases h2 : 0 ≤ m ∧ m ≤ 30 - n
    · have h3 : D < 1 ∨ 60 < D := by omega
      have H1 := Lib.hid h1
      have H2 := Lib.hid h2
      have H3 := Lib.hid h3
      clear h h1 h2 h3
      go_enter Tryz.func7, Tryz.ntmps7
      go_upto_region 1 with (fail)
      have hF0 := FBox.new w (.bool false) (.slice none 0 0) (.slice none 0 0) 27
      have x0 : Ext w (w.alloc (.cells #[.bool false, .slice none 0 0, .slice none 0 0] 27)) := ext_alloc (Below.refl _ _) _
      have hs0 : w.heap.size + 1 ≤ (w.alloc (.cells #[.bool false, .slice none 0 0, .slice none 0 0] 27)).heap.size := by simp
      generalize w.alloc (.cells #[.bool false, .slice none 0 0, .slice none 0 0] 27) = W0 at *
      have HF := Lib.hid (fun (w' : World) (h : Ext W0 w') => hF0.below h)
      have HE := Lib.hid x0
      have f0 : Ext W0 W0 := Below.refl _ _
      obtain ⟨r0, r1, r2, g0, g1, g2⟩ := hF0
      clear x0
      go_wp2_with (first
        | (go_at_call 19; (with_reducible refine (swithin_f (n := D) H3.out).mono ?_); rintro e w3 ⟨rfl, hw3⟩; obtain rfl : W0 = w3 := hw3.symm)
        | (go_at_call 19; (with_reducible refine (swithin_t (n := n) H1.out.1 H1.out.2).mono ?_); rintro e w1 ⟨rfl, hw1'⟩; obtain rfl : W0 = w1 := hw1'.symm)
        | (go_at_call 19; (with_reducible refine (swithin_t (n := m) H2.out.1 H2.out.2).mono ?_); rintro e w2 ⟨rfl, hw2⟩; obtain rfl : W0 = w2 := hw2.symm))
      obtain ⟨q0, q1, q2⟩ := set3 r0 r1 r2 (.bool false) (.slice none 0 0) (.slice none 0 0)
      refine bodyPost_ret (v := .tuple #[.agg #[.bool false, .slice none 0 0, .slice none 0 0], .int .i64 2]) (by simp [results, Tryz.results7, go_sem, q0, q1, q2]) rfl ?_
      exact ⟨rfl, ext_put HE.out (Nat.le_refl _) _ _ _⟩
    · have h3 : m < 0 ∨ 30 - n < m := by omega
      have H1 := Lib.hid h1
      have H3 := Lib.hid h3
      clear h h1 h2 h3
      go_enter Tryz.func7, Tryz.ntmps7
      go_upto_region 1 with (fail)
      have hF0 := FBox.new w (.bool false) (.slice none 0 0) (.slice none 0 0) 27
      have x0 : Ext w (w.alloc (.cells #[.bool false, .slice none 0 0, .slice none 0 0] 27)) := ext_alloc (Below.refl _ _) _
      have hs0 : w.heap.size + 1 ≤ (w.alloc (.cells #[.bool false, .slice none 0 0, .slice none 0 0] 27)).heap.size := by simp
      generalize w.alloc (.cells #[.bool false, .slice none 0 0, .slice none 0 0] 27) = W0 at *
      have HF := Lib.hid (fun (w' : World) (h : Ext W0 w') => hF0.below h)
      have HE := Lib.hid x0
      have f0 : Ext W0 W0 := Below.refl _ _
      obtain ⟨r0, r1, r2, g0, g1, g2⟩ := hF0
      clear x0
      go_wp2_with (first
        | (go_at_call 19; (with_reducible refine (swithin_t (n := n) (low := 0) (high := 30) H1.out.1 H1.out.2).mono ?_); rintro e w1 ⟨rfl, hw1'⟩; obtain rfl : W0 = w1 := hw1'.symm)
        | (go_at_call 19; (with_reducible refine (swithin_f (n := m) H3.out).mono ?_); rintro e w2 ⟨rfl, hw2⟩; obtain rfl : W0 = w2 := hw2.symm))
      obtain ⟨q0, q1, q2⟩ := set3 r0 r1 r2 (.bool false) (.slice none 0 0) (.slice none 0 0)
      refine bodyPost_ret (v := .tuple #[.agg #[.bool false, .slice none 0 0, .slice none 0 0], .int .i64 2]) (by simp [results, Tryz.results7, go_sem, q0, q1, q2]) rfl ?_
      exact ⟨rfl, ext_put HE.out (Nat.le_refl _) _ _ _⟩
  · have h3 : n < 0 ∨ 30 < n := by omega
    have H3 := Lib.hid h3
    clear h h1 h3
    go_enter Tryz.func7, Tryz.ntmps7
    go_upto_region 1 with (fail)
    have hF0 := FBox.new w (.bool false) (.slice none 0 0) (.slice none 0 0) 27
    have x0 : Ext w (w.alloc (.cells #[.bool false, .slice none 0 0, .slice none 0 0] 27)) := ext_alloc (Below.refl _ _) _
    have hs0 : w.heap.size + 1 ≤ (w.alloc (.cells #[.bool false, .slice none 0 0, .slice none 0 0] 27)).heap.size := by simp
    generalize w.alloc (.cells #[.bool false, .slice none 0 0, .slice none 0 0] 27) = W0 at *
    have HF := Lib.hid (fun (w' : World) (h : Ext W0 w') => hF0.below h)
    have HE := Lib.hid x0
    have f0 : Ext W0 W0 := Below.refl _ _
    obtain ⟨r0, r1, r2, g0, g1, g2⟩ := hF0
    clear x0
    go_wp2_with (go_at_call 19; (with_reducible refine (swithin_f (n := n) H3.out).mono ?_); rintro e w1 ⟨rfl, hw1'⟩; obtain rfl : W0 = w1 := hw1'.symm)
    obtain ⟨q0, q1, q2⟩ := set3 r0 r1 r2 (.bool false) (.slice none 0 0) (.slice none 0 0)
    refine bodyPost_ret (v := .tuple #[.agg #[.bool false, .slice none 0 0, .slice none 0 0], .int .i64 2]) (by simp [results, Tryz.results7, go_sem, q0, q1, q2]) rfl ?_
    exact ⟨rfl, ext_put HE.out (Nat.le_refl _) _ _ _⟩
theorem rexp_no {n D m : Int} {w : World} (h : ¬ ExpIn n D m) : Calls Tryz.prog 8 #[.int .i64 n, .int .i64 D, .int .i64 m] w (GivesFN w 2) := by
  unfold ExpIn at h
  by_cases h1 : OccIn n D
  · have hn : 0 ≤ n ∧ n ≤ 30 := h1.1
    have hD : 1 ≤ D ∧ D ≤ 60 := h1.2
    have hw1 : IntKind.i64.wrap (30 - n) = 30 - n := wrap_in (by omega)
    have h3 : m < 0 ∨ 30 - n < m := by omega
    have H1 := Lib.hid hn
    have H2 := Lib.hid hD
    have H3 := Lib.hid h3
    clear h h1 h3 hn hD
    go_enter Tryz.func8, Tryz.ntmps8
    go_upto_region 1 with (fail)
    have hF0 := FBox.new w (.bool false) (.slice none 0 0) (.slice none 0 0) 27
    have x0 : Ext w (w.alloc (.cells #[.bool false, .slice none 0 0, .slice none 0 0] 27)) := ext_alloc (Below.refl _ _) _
    have hs0 : w.heap.size + 1 ≤ (w.alloc (.cells #[.bool false, .slice none 0 0, .slice none 0 0] 27)).heap.size := by simp
    generalize w.alloc (.cells #[.bool false, .slice none 0 0, .slice none 0 0] 27) = W0 at *
    have HF := Lib.hid (fun (w' : World) (h : Ext W0 w') => hF0.below h)
    have HE := Lib.hid x0
    have f0 : Ext W0 W0 := Below.refl _ _
    obtain ⟨r0, r1, r2, g0, g1, g2⟩ := hF0
    clear x0
    go_wp2_with (first
      | (go_at_call 22; (with_reducible refine (rvalid_t H1.out H2.out).mono ?_); rintro e w1 ⟨rfl, hw1'⟩; obtain rfl : W0 = w1 := hw1'.symm)
      | (go_at_call 23; (with_reducible refine (rin_f (n := m) H3.out).mono ?_); rintro e w2 ⟨rfl, hw2⟩; obtain rfl : W0 = w2 := hw2.symm))
    obtain ⟨q0, q1, q2⟩ := set3 r0 r1 r2 (.bool false) (.slice none 0 0) (.slice none 0 0)
    refine bodyPost_ret (v := .tuple #[.agg #[.bool false, .slice none 0 0, .slice none 0 0], .int .i64 2]) (by simp [results, Tryz.results8, go_sem, q0, q1, q2]) rfl ?_
    exact ⟨rfl, ext_put HE.out (Nat.le_refl _) _ _ _⟩
  · have H1 := Lib.hid h1
    clear h h1
    go_enter Tryz.func8, Tryz.ntmps8
    go_upto_region 1 with (fail)
    have hF0 := FBox.new w (.bool false) (.slice none 0 0) (.slice none 0 0) 27
    have x0 : Ext w (w.alloc (.cells #[.bool false, .slice none 0 0, .slice none 0 0] 27)) := ext_alloc (Below.refl _ _) _
    have hs0 : w.heap.size + 1 ≤ (w.alloc (.cells #[.bool false, .slice none 0 0, .slice none 0 0] 27)).heap.size := by simp
    generalize w.alloc (.cells #[.bool false, .slice none 0 0, .slice none 0 0] 27) = W0 at *
    have HF := Lib.hid (fun (w' : World) (h : Ext W0 w') => hF0.below h)
    have HE := Lib.hid x0
    have f0 : Ext W0 W0 := Below.refl _ _
    obtain ⟨r0, r1, r2, g0, g1, g2⟩ := hF0
    clear x0
    go_wp2_with (go_at_call 22; (with_reducible refine (rvalid_f H1.out).mono ?_); rintro e w1 ⟨rfl, hw1'⟩; obtain rfl : W0 = w1 := hw1'.symm)
    obtain ⟨q0, q1, q2⟩ := set3 r0 r1 r2 (.bool false) (.slice none 0 0) (.slice none 0 0)
    refine bodyPost_ret (v := .tuple #[.agg #[.bool false, .slice none 0 0, .slice none 0 0], .int .i64 2]) (by simp [results, Tryz.results8, go_sem, q0, q1, q2]) rfl ?_
    exact ⟨rfl, ext_put HE.out (Nat.le_refl _) _ _ _⟩

set_option maxHeartbeats 4000000 in
theorem rexp_ok {n D m : Nat} {w : World} (hn : n + m ≤ 30) (hD1 : 1 ≤ D) (hD : D ≤ 60) :
    Calls Tryz.prog 8 #[.int .i64 n, .int .i64 D, .int .i64 m] w (GivesFE w (meanQ (n + m) D - meanQ n D)) := by
  have HF1 := Lib.hid (meanQ_fb (n := n) (D := D) (by omega) hD1 hD)
  have HF2 := Lib.hid (meanQ_fb (n := n + m) (D := D) hn hD1 hD)
  have HC2 := Lib.hid (fun w => (show Calls Tryz.prog 24 #[.int .i64 ((n : Int) + m), .int .i64 D] w (GivesFE w (meanQ (n + m) D)) from by
    have h := rmean_ok (n := n + m) (D := D) (w := w) hn hD1 hD
    rw [show ((n + m : Nat) : Int) = (n : Int) + m from by omega] at h
    exact h))
  have hw1 : IntKind.i64.wrap (30 - (n : Int)) = 30 - (n : Int) := wrap_in (by omega)
  have hw2 : IntKind.i64.wrap ((n : Int) + m) = (n : Int) + m := wrap_in (by omega)
  go_enter Tryz.func8, Tryz.ntmps8
  go_upto_region 1 with (fail)
  have hF0 := FBox.new w (.bool false) (.slice none 0 0) (.slice none 0 0) 27
  have x0 : Ext w (w.alloc (.cells #[.bool false, .slice none 0 0, .slice none 0 0] 27)) := ext_alloc (Below.refl _ _) _
  have hs0 : w.heap.size + 1 ≤ (w.alloc (.cells #[.bool false, .slice none 0 0, .slice none 0 0] 27)).heap.size := by simp
  generalize w.alloc (.cells #[.bool false, .slice none 0 0, .slice none 0 0] 27) = W0 at *
  have HF := Lib.hid (fun (w' : World) (h : Ext W0 w') => hF0.below h)
  have HE := Lib.hid x0
  have f0 : Ext W0 W0 := Below.refl _ _
  obtain ⟨r0, r1, r2, g0, g1, g2⟩ := hF0
  clear x0
  go_upto_region 3 with (first
    | (go_at_call 22; (with_reducible refine (rvalid_t (by omega) (by omega)).mono ?_); rintro e wz ⟨rfl, rfl⟩)
    | (go_at_call 23; (with_reducible refine (rin_t (n := (m : Int)) (by omega) (by omega)).mono ?_); rintro e wz ⟨rfl, rfl⟩))
  go_wp2_with fail
  refine (rmean_ok (n := n) (D := D) (by omega) hD1 hD).mono ?_
  rintro e w1 ⟨b1, A1, k1, c1, A1', k1', c1', rfl, h1, y1, n1, n1'⟩
  clear n1 n1'
  go_upto_region 4 with (fail)
  have hG1 := FBox.new w1 (.bool b1) (.slice A1 k1 c1) (.slice A1' k1' c1') 27
  have Y1 : Ext wz (w1.alloc (.cells #[.bool b1, .slice A1 k1 c1, .slice A1' k1' c1'] 27)) := ext_alloc y1 _
  have h1 := h1.below (ext_alloc (Below.refl _ _) (.cells #[.bool b1, .slice A1 k1 c1, .slice A1' k1' c1'] 27))
  have hsz1 : w1.heap.size < (w1.alloc (.cells #[.bool b1, .slice A1 k1 c1, .slice A1' k1' c1'] 27)).heap.size := by simp
  generalize w1.alloc (.cells #[.bool b1, .slice A1 k1 c1, .slice A1' k1' c1'] 27) = W1 at *
  generalize w1.heap.size = B1 at *
  have HG1 := Lib.hid (fun (w' : World) (h : Ext W1 w') => hG1.below h)
  have HP1 := Lib.hid (fun (w' : World) (h : Ext W1 w') => FracV.any (h1.below h) (HF1.out) (by omega))
  have HB1 := Lib.hid (fun (w' : World) (h : Ext W1 w') => h1.below h)
  clear hG1 h1 y1 hsz1
  go_wp2_with fail
  refine (HC2.out _).mono ?_
  rintro e w2 ⟨b2, A2, k2, c2, A2', k2', c2', rfl, h2, y2, n2, n2'⟩
  clear n2 n2'
  go_upto_region 5 with (fail)
  have hG2 := FBox.new w2 (.bool b2) (.slice A2 k2 c2) (.slice A2' k2' c2') 27
  have Y2 : Ext W1 (w2.alloc (.cells #[.bool b2, .slice A2 k2 c2, .slice A2' k2' c2'] 27)) := ext_alloc y2 _
  have h2 := h2.below (ext_alloc (Below.refl _ _) (.cells #[.bool b2, .slice A2 k2 c2, .slice A2' k2' c2'] 27))
  have hsz2 : w2.heap.size < (w2.alloc (.cells #[.bool b2, .slice A2 k2 c2, .slice A2' k2' c2'] 27)).heap.size := by simp
  generalize w2.alloc (.cells #[.bool b2, .slice A2 k2 c2, .slice A2' k2' c2'] 27) = W2 at *
  generalize w2.heap.size = B2 at *
  have HG2 := Lib.hid (fun (w' : World) (h : Ext W2 w') => hG2.below h)
  have HP2 := Lib.hid (fun (w' : World) (h : Ext W2 w') => FracV.any (h2.below h) (HF2.out) (by omega))
  have HB2 := Lib.hid (fun (w' : World) (h : Ext W2 w') => h2.below h)
  clear hG2 h2 y2 hsz2
  obtain ⟨p0, p1, p2, _, _, _⟩ := HG1.out _ Y2
  obtain ⟨s0, s1, s2, _, _, _⟩ := HG2.out _ (Below.refl _ _)
  obtain ⟨r0, r1, r2, g0, g1, g2⟩ := HF.out _ (Y1.trans Y2)
  go_wp2_with (go_at_call 25; (with_reducible refine (rsub_f (HP2.out _ (Below.refl _ _)) (HP1.out _ Y2) HF2.out HF1.out (by omega)).mono ?_); rintro _ s9 ⟨b9, A9, k9, c9, B9, l9, d9, rfl, h9, z9, n9, m9⟩; obtain ⟨r0, r1, r2, g0, g1, g2⟩ := HF.out _ (Y1.trans (Y2.trans z9)))
  obtain ⟨q0, q1, q2⟩ := set3 r0 r1 r2 (.bool b9) (.slice A9 k9 c9) (.slice B9 l9 d9)
  refine bodyPost_ret (v := .tuple #[.agg #[.bool b9, .slice A9 k9 c9, .slice B9 l9 d9], .int .i64 0]) (by simp [results, Tryz.results8, go_sem, q0, q1, q2]) rfl ?_
  exact GivesFE.box (HE.out.trans (Y1.trans (Y2.trans z9))) h9 (n9.mono (by have := Y1.size; have := Y2.size; omega)) (m9.mono (by have := Y1.size; have := Y2.size; omega)) (Nat.le_refl _)

end Go.Proofs.YtnedgbebajhcpaaGreatDoor
