/- sampling: within, Expected. -/
import Derived.Test.YtnedgbebajhcpaaDoorOcB
set_option linter.unusedVariables false
set_option linter.unusedSimpArgs false
set_option maxRecDepth 100000
namespace Go.Proofs.YtnedgbebajhcpaaDoor
open Go.RowKit Num

theorem swithin_t {n low high : Int} {w : World} (h1 : low ≤ n) (h2 : n ≤ high) : Calls Tryd.prog 32 #[.int .i64 n, .int .i64 low, .int .i64 high] w (fun e w' => e = .returned (.bool true) ∧ w' = w) := by
  go_enter Tryd.func32, Tryd.ntmps32
  go_wp2
  go_ret
  exact ⟨rfl, rfl⟩
theorem swithin_f {n low high : Int} {w : World} (h : n < low ∨ high < n) : Calls Tryd.prog 32 #[.int .i64 n, .int .i64 low, .int .i64 high] w (fun e w' => e = .returned (.bool false) ∧ w' = w) := by
  by_cases h1 : low ≤ n
  · have h2 : ¬ n ≤ high := by omega
    have hd : decide (n ≤ high) = false := decide_eq_false h2
    clear h
    go_enter Tryd.func32, Tryd.ntmps32
    go_wp2
    go_ret
    exact ⟨rfl, rfl⟩
  · have hd : decide (low ≤ n) = false := decide_eq_false h1
    clear h
    go_enter Tryd.func32, Tryd.ntmps32
    go_wp2
    go_ret
    exact ⟨rfl, rfl⟩
theorem meanQ_fb {n D : Nat} (hn : n ≤ 30) (hD1 : 1 ≤ D) (hD : D ≤ 60) : FB (meanQ n D) 38 :=
  FB.mul (fb_i64 (by omega) (by omega)) (FB.sub one1_fb (powQ_fb (n := n) (less_small hD1 hD).1 (less_small hD1 hD).2 hn) (by omega)) (by omega)

set_option maxHeartbeats 4000000 in
theorem sexp_ok {n D m : Nat} {w : World} (hn : n + m ≤ 30) (hD1 : 1 ≤ D) (hD : D ≤ 60) (ht : Tab10 w) :
    Calls Tryd.prog 10 #[.int .i64 n, .int .i64 D, .int .i64 m] w (GivesFE w (meanQ (n + m) D - meanQ n D)) := by
  have HT := Lib.hid (fun (w' : World) (h : Ext w w') => ht.ext h)
  have HF1 := Lib.hid (meanQ_fb (n := n) (D := D) (by omega) hD1 hD)
  have HF2 := Lib.hid (meanQ_fb (n := n + m) (D := D) hn hD1 hD)
  have HC2 := Lib.hid (fun w (ht : Tab10 w) => (show Calls Tryd.prog 11 #[.int .i64 ((n : Int) + m), .int .i64 D] w (GivesFE w (meanQ (n + m) D)) from by
    have h := omean_ok (n := n + m) (D := D) (w := w) hn hD1 hD ht
    rw [show ((n + m : Nat) : Int) = (n : Int) + m from by omega] at h
    exact h))
  have hw1 : IntKind.i64.wrap (30 - (n : Int)) = 30 - (n : Int) := wrap_in (by omega)
  have hw2 : IntKind.i64.wrap ((n : Int) + m) = (n : Int) + m := wrap_in (by omega)
  clear ht
  go_enter Tryd.func10, Tryd.ntmps10
  go_upto_region 1 with (fail)
  have hF0 := FBox.new w (.bool false) (.slice none 0 0) (.slice none 0 0) 28
  have x0 : Ext w (w.alloc (.cells #[.bool false, .slice none 0 0, .slice none 0 0] 28)) := ext_alloc (Below.refl _ _) _
  have hs0 : w.heap.size + 1 ≤ (w.alloc (.cells #[.bool false, .slice none 0 0, .slice none 0 0] 28)).heap.size := by simp
  generalize w.alloc (.cells #[.bool false, .slice none 0 0, .slice none 0 0] 28) = W0 at *
  have HF := Lib.hid (fun (w' : World) (h : Ext W0 w') => hF0.below h)
  have HE := Lib.hid x0
  have f0 : Ext W0 W0 := Below.refl _ _
  obtain ⟨r0, r1, r2, g0, g1, g2⟩ := hF0
  clear x0
  go_upto_region 3 with (go_at_call 32; (with_reducible refine (swithin_t (by omega) (by omega)).mono ?_); rintro e wz ⟨rfl, rfl⟩)
  go_wp2_with fail
  refine (omean_ok (n := n) (D := D) (by omega) hD1 hD (HT.out _ HE.out)).mono ?_
  rintro e w1 ⟨b1, A1, k1, c1, A1', k1', c1', rfl, h1, y1, n1, n1'⟩
  clear n1 n1'
  go_upto_region 4 with (fail)
  have hG1 := FBox.new w1 (.bool b1) (.slice A1 k1 c1) (.slice A1' k1' c1') 28
  have Y1 : Ext wz (w1.alloc (.cells #[.bool b1, .slice A1 k1 c1, .slice A1' k1' c1'] 28)) := ext_alloc y1 _
  have h1 := h1.below (ext_alloc (Below.refl _ _) (.cells #[.bool b1, .slice A1 k1 c1, .slice A1' k1' c1'] 28))
  have hsz1 : w1.heap.size < (w1.alloc (.cells #[.bool b1, .slice A1 k1 c1, .slice A1' k1' c1'] 28)).heap.size := by simp
  generalize w1.alloc (.cells #[.bool b1, .slice A1 k1 c1, .slice A1' k1' c1'] 28) = W1 at *
  generalize w1.heap.size = B1 at *
  have HG1 := Lib.hid (fun (w' : World) (h : Ext W1 w') => hG1.below h)
  have HP1 := Lib.hid (fun (w' : World) (h : Ext W1 w') => FracV.any (h1.below h) (HF1.out) (by omega))
  have HB1 := Lib.hid (fun (w' : World) (h : Ext W1 w') => h1.below h)
  clear hG1 h1 y1 hsz1
  go_wp2_with fail
  refine (HC2.out _ (HT.out _ (HE.out.trans Y1))).mono ?_
  rintro e w2 ⟨b2, A2, k2, c2, A2', k2', c2', rfl, h2, y2, n2, n2'⟩
  clear n2 n2'
  go_upto_region 5 with (fail)
  have hG2 := FBox.new w2 (.bool b2) (.slice A2 k2 c2) (.slice A2' k2' c2') 28
  have Y2 : Ext W1 (w2.alloc (.cells #[.bool b2, .slice A2 k2 c2, .slice A2' k2' c2'] 28)) := ext_alloc y2 _
  have h2 := h2.below (ext_alloc (Below.refl _ _) (.cells #[.bool b2, .slice A2 k2 c2, .slice A2' k2' c2'] 28))
  have hsz2 : w2.heap.size < (w2.alloc (.cells #[.bool b2, .slice A2 k2 c2, .slice A2' k2' c2'] 28)).heap.size := by simp
  generalize w2.alloc (.cells #[.bool b2, .slice A2 k2 c2, .slice A2' k2' c2'] 28) = W2 at *
  generalize w2.heap.size = B2 at *
  have HG2 := Lib.hid (fun (w' : World) (h : Ext W2 w') => hG2.below h)
  have HP2 := Lib.hid (fun (w' : World) (h : Ext W2 w') => FracV.any (h2.below h) (HF2.out) (by omega))
  have HB2 := Lib.hid (fun (w' : World) (h : Ext W2 w') => h2.below h)
  clear hG2 h2 y2 hsz2
  obtain ⟨p0, p1, p2, _, _, _⟩ := HG1.out _ Y2
  obtain ⟨s0, s1, s2, _, _, _⟩ := HG2.out _ (Below.refl _ _)
  obtain ⟨r0, r1, r2, g0, g1, g2⟩ := HF.out _ (Y1.trans Y2)
  go_wp2_with (go_at_call 12; (with_reducible refine (sub_f (HP2.out _ (Below.refl _ _)) (HP1.out _ Y2) HF2.out HF1.out (by omega)).mono ?_); rintro _ s9 ⟨b9, A9, k9, c9, B9, l9, d9, rfl, h9, z9, n9, m9⟩; obtain ⟨r0, r1, r2, g0, g1, g2⟩ := HF.out _ (Y1.trans (Y2.trans z9)))
  obtain ⟨q0, q1, q2⟩ := set3 r0 r1 r2 (.bool b9) (.slice A9 k9 c9) (.slice B9 l9 d9)
  refine bodyPost_ret (v := .tuple #[.agg #[.bool b9, .slice A9 k9 c9, .slice B9 l9 d9], .int .i64 0]) (by simp [results, Tryd.results10, go_sem, q0, q1, q2]) rfl ?_
  exact GivesFE.box (HE.out.trans (Y1.trans (Y2.trans z9))) h9 (n9.mono (by have := Y1.size; have := Y2.size; omega)) (m9.mono (by have := Y1.size; have := Y2.size; omega)) (Nat.le_refl _)

end Go.Proofs.YtnedgbebajhcpaaDoor
