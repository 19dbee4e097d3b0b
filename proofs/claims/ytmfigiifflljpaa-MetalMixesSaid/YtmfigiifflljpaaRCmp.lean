/- The references' Sign, Cmp (as in ConR, for seats without confidence). -/
import Derived.Test.YtmfigiifflljpaaRFracN
import Derived.Test.YtmfigiifflljpaaRFracD
set_option linter.unusedVariables false
set_option linter.unusedSimpArgs false
set_option maxRecDepth 100000
namespace Go.Proofs.Ytmfigiifflljpaa
open Go.RowKit Num

theorem AnyF.fbR {w : World} {b : Bool} {s t : Value} {q : Rat} {L : Nat} (h : AnyF w b s t q L) (hL : 1 ≤ L) : FB q L := by
  obtain ⟨n, d, _, _, rfl, h1, h2⟩ := h
  exact frac_fb h1 h2 hL

set_option maxHeartbeats 4000000 in
theorem rsign_f {b : Bool} {s t : Value} {q : Rat} {L : Nat} {w : World} (hx : AnyF w b s t q L) (hL : L ≤ 549755813000) :
    Calls Try.prog 32 #[.agg #[.bool b, s, t]] w (fun e w' => e = .returned (.int .i64 (sgnQ q)) ∧ Ext w w') := by
  by_cases hL1 : 1 ≤ L
  · have HFQ := Lib.hid (hx.fbR hL1)
    have hcase : q = 0 ∨ (q ≠ 0 ∧ q < 0) ∨ (q ≠ 0 ∧ ¬ q < 0) := by
      by_cases h0 : q = 0
      · exact .inl h0
      · by_cases h1 : q < 0
        · exact .inr (.inl ⟨h0, h1⟩)
        · exact .inr (.inr ⟨h0, h1⟩)
    rcases hcase with h0 | ⟨h0, h1⟩ | ⟨h0, h1⟩
    · have HSG := Lib.hid (show sgnQ q = 0 from by rw [h0]; rfl)
      have HN0 := Lib.hid (show q.num.natAbs = 0 from by rw [h0]; rfl)
      rw [HSG.out]
      clear h0
      go_enter Try.func32, Try.ntmps32
      go_upto_region 1 with (fail)
      have hB0 := FBox.new w (.bool b) (s) (t) 34
      have x0 : Ext w (w.alloc (.cells #[.bool b, s, t] 34)) := ext_alloc (Below.refl _ _) _
      have hs0 : w.heap.size + 1 ≤ (w.alloc (.cells #[.bool b, s, t] 34)).heap.size := by simp
      generalize (w.alloc (.cells #[.bool b, s, t] 34)) = W0 at *
      have HB0 := Lib.hid (fun (w' : World) (h : Ext W0 w') => hB0.below h)
      obtain ⟨c00, c01, c02, d00, d01, d02⟩ := hB0
      have HE := Lib.hid x0
      clear x0
      have f0 : Ext W0 W0 := Below.refl _ _
      have HY := Lib.hid (hx.below HE.out)
      clear hx
      go_upto_region 2 with (go_at_call 29; (with_reducible refine (rnorm_f HY.out (by omega)).mono ?_); rintro e s1 ⟨b1, A1, k1, l1, B1, m1, o1, rfl, h1, z1, n1, n1'⟩; have f1 : Ext W0 s1 := Ext.trans (by first | ((repeat first | assumption | exact Below.refl _ _ | refine ext_alloc ?_ _ | refine ext_drew ?_ | refine ext_set ?_ (by first | omega | (simp; done) | (simp; omega)) _); done) | fail) z1; obtain ⟨c00, c01, c02, d00, d01, d02⟩ := HB0.out _ f1)
      have P0 := FBox.put (HB0.out _ f1) (.bool b1) (.slice A1 k1 l1) (.slice B1 m1 o1)
      have V1 := FracV.put (b := w.heap.size) (h1) (n1) (n1') (by omega) (.bool b1) (.slice A1 k1 l1) (.slice B1 m1 o1)
      have E1 := ext_put (b := w.heap.size) (HE.out.trans f1) (by omega) (.bool b1) (.slice A1 k1 l1) (.slice B1 m1 o1)
      generalize ((s1.setCell ⟨w.heap.size, 0, none⟩ (.bool b1)).setCell ⟨w.heap.size, 1, none⟩ (.slice A1 k1 l1)).setCell ⟨w.heap.size, 2, none⟩ (.slice B1 m1 o1) = W1 at *
      have HE1 := Lib.hid E1
      have HN := Lib.hid (V1.2.1.nat (Nat.le_trans HFQ.out.1 (by omega)))
      rw [HN0.out] at HN
      obtain ⟨p0, p1, p2, _, _, _⟩ := P0
      have e1 : Ext W1 W1 := Below.refl _ _
      clear c00 c01 c02 d00 d01 d02 n1 n1' z1 E1 V1 h1
      go_wp2_with (go_at_call 58; (with_reducible refine (rzero_t HN.out).mono ?_); rintro e s2 ⟨rfl, z2⟩; have f2 : Ext W1 s2 := Ext.trans (by first | ((repeat first | assumption | exact Below.refl _ _ | refine ext_alloc ?_ _ | refine ext_drew ?_ | refine ext_set ?_ (by first | omega | (simp; done) | (simp; omega)) _); done) | fail) z2)
      go_ret
      exact ⟨rfl, HE1.out.trans f2⟩
    · have HSG := Lib.hid (show sgnQ q = -1 from if_pos h1)
      have HB := Lib.hid (show decide (q < 0) = true from decide_eq_true h1)
      have HN0 := Lib.hid (num_ne h0)
      rw [HSG.out]
      clear h0 h1
      go_enter Try.func32, Try.ntmps32
      go_upto_region 1 with (fail)
      have hB0 := FBox.new w (.bool b) (s) (t) 34
      have x0 : Ext w (w.alloc (.cells #[.bool b, s, t] 34)) := ext_alloc (Below.refl _ _) _
      have hs0 : w.heap.size + 1 ≤ (w.alloc (.cells #[.bool b, s, t] 34)).heap.size := by simp
      generalize (w.alloc (.cells #[.bool b, s, t] 34)) = W0 at *
      have HB0 := Lib.hid (fun (w' : World) (h : Ext W0 w') => hB0.below h)
      obtain ⟨c00, c01, c02, d00, d01, d02⟩ := hB0
      have HE := Lib.hid x0
      clear x0
      have f0 : Ext W0 W0 := Below.refl _ _
      have HY := Lib.hid (hx.below HE.out)
      clear hx
      go_upto_region 2 with (go_at_call 29; (with_reducible refine (rnorm_f HY.out (by omega)).mono ?_); rintro e s1 ⟨b1, A1, k1, l1, B1, m1, o1, rfl, h1, z1, n1, n1'⟩; have f1 : Ext W0 s1 := Ext.trans (by first | ((repeat first | assumption | exact Below.refl _ _ | refine ext_alloc ?_ _ | refine ext_drew ?_ | refine ext_set ?_ (by first | omega | (simp; done) | (simp; omega)) _); done) | fail) z1; obtain ⟨c00, c01, c02, d00, d01, d02⟩ := HB0.out _ f1)
      obtain rfl : b1 = true := by rw [h1.1]; exact HB.out
      have P0 := FBox.put (HB0.out _ f1) (.bool true) (.slice A1 k1 l1) (.slice B1 m1 o1)
      have V1 := FracV.put (b := w.heap.size) (h1) (n1) (n1') (by omega) (.bool true) (.slice A1 k1 l1) (.slice B1 m1 o1)
      have E1 := ext_put (b := w.heap.size) (HE.out.trans f1) (by omega) (.bool true) (.slice A1 k1 l1) (.slice B1 m1 o1)
      generalize ((s1.setCell ⟨w.heap.size, 0, none⟩ (.bool true)).setCell ⟨w.heap.size, 1, none⟩ (.slice A1 k1 l1)).setCell ⟨w.heap.size, 2, none⟩ (.slice B1 m1 o1) = W1 at *
      have HE1 := Lib.hid E1
      have HP := Lib.hid (fun (w' : World) (h : Ext W1 w') => P0.below h)
      have HN := Lib.hid (V1.2.1.nat (Nat.le_trans HFQ.out.1 (by omega)))
      obtain ⟨p0, p1, p2, _, _, _⟩ := P0
      have e1 : Ext W1 W1 := Below.refl _ _
      clear c00 c01 c02 d00 d01 d02 n1 n1' z1 E1 V1 h1
      go_wp2_with (go_at_call 58; (with_reducible refine (rzero_f HN.out HN0.out).mono ?_); rintro e s2 ⟨rfl, z2⟩; have f2 : Ext W1 s2 := Ext.trans (by first | ((repeat first | assumption | exact Below.refl _ _ | refine ext_alloc ?_ _ | refine ext_drew ?_ | refine ext_set ?_ (by first | omega | (simp; done) | (simp; omega)) _); done) | fail) z2; obtain ⟨p0, p1, p2, _, _, _⟩ := HP.out _ f2)
      go_ret
      exact ⟨rfl, HE1.out.trans f2⟩
    · have HSG := Lib.hid (show sgnQ q = 1 from by unfold sgnQ; rw [if_neg h1, if_pos (by grind)])
      have HB := Lib.hid (show decide (q < 0) = false from decide_eq_false h1)
      have HN0 := Lib.hid (num_ne h0)
      rw [HSG.out]
      clear h0 h1
      go_enter Try.func32, Try.ntmps32
      go_upto_region 1 with (fail)
      have hB0 := FBox.new w (.bool b) (s) (t) 34
      have x0 : Ext w (w.alloc (.cells #[.bool b, s, t] 34)) := ext_alloc (Below.refl _ _) _
      have hs0 : w.heap.size + 1 ≤ (w.alloc (.cells #[.bool b, s, t] 34)).heap.size := by simp
      generalize (w.alloc (.cells #[.bool b, s, t] 34)) = W0 at *
      have HB0 := Lib.hid (fun (w' : World) (h : Ext W0 w') => hB0.below h)
      obtain ⟨c00, c01, c02, d00, d01, d02⟩ := hB0
      have HE := Lib.hid x0
      clear x0
      have f0 : Ext W0 W0 := Below.refl _ _
      have HY := Lib.hid (hx.below HE.out)
      clear hx
      go_upto_region 2 with (go_at_call 29; (with_reducible refine (rnorm_f HY.out (by omega)).mono ?_); rintro e s1 ⟨b1, A1, k1, l1, B1, m1, o1, rfl, h1, z1, n1, n1'⟩; have f1 : Ext W0 s1 := Ext.trans (by first | ((repeat first | assumption | exact Below.refl _ _ | refine ext_alloc ?_ _ | refine ext_drew ?_ | refine ext_set ?_ (by first | omega | (simp; done) | (simp; omega)) _); done) | fail) z1; obtain ⟨c00, c01, c02, d00, d01, d02⟩ := HB0.out _ f1)
      obtain rfl : b1 = false := by rw [h1.1]; exact HB.out
      have P0 := FBox.put (HB0.out _ f1) (.bool false) (.slice A1 k1 l1) (.slice B1 m1 o1)
      have V1 := FracV.put (b := w.heap.size) (h1) (n1) (n1') (by omega) (.bool false) (.slice A1 k1 l1) (.slice B1 m1 o1)
      have E1 := ext_put (b := w.heap.size) (HE.out.trans f1) (by omega) (.bool false) (.slice A1 k1 l1) (.slice B1 m1 o1)
      generalize ((s1.setCell ⟨w.heap.size, 0, none⟩ (.bool false)).setCell ⟨w.heap.size, 1, none⟩ (.slice A1 k1 l1)).setCell ⟨w.heap.size, 2, none⟩ (.slice B1 m1 o1) = W1 at *
      have HE1 := Lib.hid E1
      have HP := Lib.hid (fun (w' : World) (h : Ext W1 w') => P0.below h)
      have HN := Lib.hid (V1.2.1.nat (Nat.le_trans HFQ.out.1 (by omega)))
      obtain ⟨p0, p1, p2, _, _, _⟩ := P0
      have e1 : Ext W1 W1 := Below.refl _ _
      clear c00 c01 c02 d00 d01 d02 n1 n1' z1 E1 V1 h1
      go_wp2_with (go_at_call 58; (with_reducible refine (rzero_f HN.out HN0.out).mono ?_); rintro e s2 ⟨rfl, z2⟩; have f2 : Ext W1 s2 := Ext.trans (by first | ((repeat first | assumption | exact Below.refl _ _ | refine ext_alloc ?_ _ | refine ext_drew ?_ | refine ext_set ?_ (by first | omega | (simp; done) | (simp; omega)) _); done) | fail) z2; obtain ⟨p0, p1, p2, _, _, _⟩ := HP.out _ f2)
      go_ret
      exact ⟨rfl, HE1.out.trans f2⟩
  · exact rsign_f (L := 1) (by
      obtain ⟨n, d, g1, g2, g3, g4, g5⟩ := hx
      exact ⟨n, d, g1, g2, g3, by omega, by omega⟩) (by omega)
  termination_by 1 - L

set_option maxHeartbeats 4000000 in
theorem rcmp_e {b b' : Bool} {s t s' t' : Value} {p q : Rat} {L M : Nat} {z : Int} {w : World} (hx : AnyF w b s t p L) (hy : AnyF w b' s' t' q M) (hL1 : 1 ≤ L) (hM1 : 1 ≤ M) (hL : L + M ≤ 549755812000) (hz : cmpQ p q = z) :
    Calls Try.prog 28 #[.agg #[.bool b, s, t], .agg #[.bool b', s', t']] w (fun e w' => e = .returned (.int .i64 z) ∧ Ext w w') := by
  have HX := Lib.hid (fun (w' : World) (h : Ext w w') => hx.below h)
  have HY := Lib.hid (fun (w' : World) (h : Ext w w') => hy.below h)
  have HF1 := Lib.hid (hx.fbR hL1)
  have HF2 := Lib.hid (hy.fbR hM1)
  have HF3 := Lib.hid (FB.sub HF1.out HF2.out hL1)
  rw [cmpQ_sub] at hz
  obtain ⟨r, hr⟩ : ∃ r, p - q = r := ⟨_, rfl⟩
  rw [hr] at hz HF3
  have HR := Lib.hid hr
  have HZ := Lib.hid hz
  clear hx hy hr hz
  go_enter Try.func28, Try.ntmps28
  go_upto_region 1 with (fail)
  have hB0 := (FBox.new w (.bool b) (s) (t) 34).below (ext_alloc (Below.refl _ _) (.cells #[.bool b', s', t'] 34))
  have hB1 := FBox.new (w.alloc (.cells #[.bool b, s, t] 34)) (.bool b') (s') (t') 34
  rw [show (w.alloc (.cells #[.bool b, s, t] 34)).heap.size = w.heap.size + 1 from by simp] at hB1
  have x0 : Ext w ((w.alloc (.cells #[.bool b, s, t] 34)).alloc (.cells #[.bool b', s', t'] 34)) := ext_alloc (ext_alloc (Below.refl _ _) _) _
  have hs0 : w.heap.size + 1 + 1 ≤ ((w.alloc (.cells #[.bool b, s, t] 34)).alloc (.cells #[.bool b', s', t'] 34)).heap.size := by simp
  generalize ((w.alloc (.cells #[.bool b, s, t] 34)).alloc (.cells #[.bool b', s', t'] 34)) = W0 at *
  have HB0 := Lib.hid (fun (w' : World) (h : Ext W0 w') => hB0.below h)
  obtain ⟨c00, c01, c02, d00, d01, d02⟩ := hB0
  have HB1 := Lib.hid (fun (w' : World) (h : Ext W0 w') => hB1.below h)
  obtain ⟨c10, c11, c12, d10, d11, d12⟩ := hB1
  have HE := Lib.hid x0
  clear x0
  have f0 : Ext W0 W0 := Below.refl _ _
  go_wp2_with (first
    | (go_at_call 37; (with_reducible refine (rsub_f (HX.out _ HE.out) (HY.out _ HE.out) HF1.out HF2.out (by omega)).mono ?_); rw [HR.out]; rintro _ s2 ⟨b2, A2, k2, c2, B2, l2, d2, rfl, h2, z2, _⟩)
    | (go_at_call 32; (with_reducible refine (rsign_f (FracV.any h2 HF3.out (by omega)) (by omega)).mono ?_); rw [HZ.out]; rintro _ s3 ⟨rfl, z3⟩))
  go_ret
  exact ⟨rfl, HE.out.trans (z2.trans z3)⟩

end Go.Proofs.Ytmfigiifflljpaa
