/- fraction: Div. -/
import Derived.Test.YtmfigiifflljpaaFracS
import Derived.Test.YtmfigiifflljpaaFres
set_option linter.unusedVariables false
set_option linter.unusedSimpArgs false
set_option maxRecDepth 100000
namespace Go.Proofs.Ytmfigiifflljpaa
open Go.RowKit Num

set_option maxHeartbeats 4000000 in
theorem div_no {b b' : Bool} {s t s' t' : Value} {q : Rat} {M : Nat} {w : World} (hy : AnyF w b' s' t' q M) (hq : q = 0) :
    Calls Try.prog 50 #[.agg #[.bool b, s, t], .agg #[.bool b', s', t']] w (GivesFN w 12) := by
  have HZ := Lib.hid (show sgnQ q = 0 from by rw [hq]; rfl)
  clear hq
  go_enter Try.func50, Try.ntmps50
  go_upto_region 1 with (fail)
  have hB0 := ((FBox.new w (.bool b) (s) (t) 34).below (ext_alloc (Below.refl _ _) (.cells #[.bool b', s', t'] 34))).below (ext_alloc (Below.refl _ _) (.cells #[.bool false, .slice none 0 0, .slice none 0 0] 34))
  have hB1 := (FBox.new (w.alloc (.cells #[.bool b, s, t] 34)) (.bool b') (s') (t') 34).below (ext_alloc (Below.refl _ _) (.cells #[.bool false, .slice none 0 0, .slice none 0 0] 34))
  rw [show (w.alloc (.cells #[.bool b, s, t] 34)).heap.size = w.heap.size + 1 from by simp] at hB1
  have hB2 := FBox.new ((w.alloc (.cells #[.bool b, s, t] 34)).alloc (.cells #[.bool b', s', t'] 34)) (.bool false) (.slice none 0 0) (.slice none 0 0) 34
  rw [show ((w.alloc (.cells #[.bool b, s, t] 34)).alloc (.cells #[.bool b', s', t'] 34)).heap.size = w.heap.size + 1 + 1 from by simp] at hB2
  have x0 : Ext w (((w.alloc (.cells #[.bool b, s, t] 34)).alloc (.cells #[.bool b', s', t'] 34)).alloc (.cells #[.bool false, .slice none 0 0, .slice none 0 0] 34)) := ext_alloc (ext_alloc (ext_alloc (Below.refl _ _) _) _) _
  have hs0 : w.heap.size + 1 + 1 + 1 ≤ (((w.alloc (.cells #[.bool b, s, t] 34)).alloc (.cells #[.bool b', s', t'] 34)).alloc (.cells #[.bool false, .slice none 0 0, .slice none 0 0] 34)).heap.size := by simp
  generalize (((w.alloc (.cells #[.bool b, s, t] 34)).alloc (.cells #[.bool b', s', t'] 34)).alloc (.cells #[.bool false, .slice none 0 0, .slice none 0 0] 34)) = W0 at *
  have HB0 := Lib.hid (fun (w' : World) (h : Ext W0 w') => hB0.below h)
  obtain ⟨c00, c01, c02, d00, d01, d02⟩ := hB0
  have HB1 := Lib.hid (fun (w' : World) (h : Ext W0 w') => hB1.below h)
  obtain ⟨c10, c11, c12, d10, d11, d12⟩ := hB1
  have HF := Lib.hid (fun (w' : World) (h : Ext W0 w') => hB2.below h)
  obtain ⟨r0, r1, r2, g0, g1, g2⟩ := hB2
  have HE := Lib.hid x0
  clear x0
  have f0 : Ext W0 W0 := Below.refl _ _
  have HY := Lib.hid (hy.below HE.out)
  clear hy
  go_wp2_with (go_at_call 47; (with_reducible refine (sign_e HY.out HZ.out).mono ?_); rintro e s1 ⟨rfl, z1⟩; obtain ⟨r0, r1, r2, g0, g1, g2⟩ := HF.out _ z1)
  obtain ⟨q0, q1, q2⟩ := set3 r0 r1 r2 (.bool false) (.slice none 0 0) (.slice none 0 0)
  refine bodyPost_ret (v := .tuple #[.agg #[.bool false, .slice none 0 0, .slice none 0 0], .int .i64 12]) (by simp [results, Try.results50, go_sem, q0, q1, q2]) rfl ?_
  exact ⟨rfl, ext_put (HE.out.trans z1) (by omega) _ _ _⟩

set_option maxHeartbeats 4000000 in
theorem div_ok {b b' : Bool} {s t s' t' : Value} {p q : Rat} {L M : Nat} {w : World} (hx : AnyF w b s t p L) (hy : AnyF w b' s' t' q M) (hL : L + M ≤ 549755813887) (hq : q ≠ 0) :
    Calls Try.prog 50 #[.agg #[.bool b, s, t], .agg #[.bool b', s', t']] w (GivesFE w (p / q)) := by
  obtain ⟨z, hz⟩ : ∃ z, sgnQ q = z := ⟨_, rfl⟩
  have hz0 : ¬ z = 0 := fun h => hq ((sgnQ_eq_zero q).1 (by rw [hz, h]))
  have hz1 : (z == 0) = false := by simp [hz0]
  have HZ := Lib.hid hz
  have HL := Lib.hid hL
  obtain ⟨n, d, hn, hd, he, ln, ld⟩ := hy
  have HI := Lib.hid (show p / q = p * frac b' d n from by rw [frac_inv, ← he, Rat.div_def])
  have HYS := Lib.hid (fun (w' : World) (h : Ext w w') => (show AnyF w' b' s' t' q M from ⟨n, d, hn.below h, hd.below h, he, ln, ld⟩))
  have HYI := Lib.hid (fun (w' : World) (h : Ext w w') => (AnyF.mk (b := b') (hd.below h) (hn.below h) ld ln : AnyF w' b' t' s' (frac b' d n) M))
  have HX := Lib.hid (fun (w' : World) (h : Ext w w') => hx.below h)
  clear hz hL hn hd he ln ld hx hq
  rw [HI.out]
  go_enter Try.func50, Try.ntmps50
  go_upto_region 1 with (fail)
  have hB0 := ((FBox.new w (.bool b) (s) (t) 34).below (ext_alloc (Below.refl _ _) (.cells #[.bool b', s', t'] 34))).below (ext_alloc (Below.refl _ _) (.cells #[.bool false, .slice none 0 0, .slice none 0 0] 34))
  have hB1 := (FBox.new (w.alloc (.cells #[.bool b, s, t] 34)) (.bool b') (s') (t') 34).below (ext_alloc (Below.refl _ _) (.cells #[.bool false, .slice none 0 0, .slice none 0 0] 34))
  rw [show (w.alloc (.cells #[.bool b, s, t] 34)).heap.size = w.heap.size + 1 from by simp] at hB1
  have hB2 := FBox.new ((w.alloc (.cells #[.bool b, s, t] 34)).alloc (.cells #[.bool b', s', t'] 34)) (.bool false) (.slice none 0 0) (.slice none 0 0) 34
  rw [show ((w.alloc (.cells #[.bool b, s, t] 34)).alloc (.cells #[.bool b', s', t'] 34)).heap.size = w.heap.size + 1 + 1 from by simp] at hB2
  have x0 : Ext w (((w.alloc (.cells #[.bool b, s, t] 34)).alloc (.cells #[.bool b', s', t'] 34)).alloc (.cells #[.bool false, .slice none 0 0, .slice none 0 0] 34)) := ext_alloc (ext_alloc (ext_alloc (Below.refl _ _) _) _) _
  have hs0 : w.heap.size + 1 + 1 + 1 ≤ (((w.alloc (.cells #[.bool b, s, t] 34)).alloc (.cells #[.bool b', s', t'] 34)).alloc (.cells #[.bool false, .slice none 0 0, .slice none 0 0] 34)).heap.size := by simp
  generalize (((w.alloc (.cells #[.bool b, s, t] 34)).alloc (.cells #[.bool b', s', t'] 34)).alloc (.cells #[.bool false, .slice none 0 0, .slice none 0 0] 34)) = W0 at *
  have HB0 := Lib.hid (fun (w' : World) (h : Ext W0 w') => hB0.below h)
  obtain ⟨c00, c01, c02, d00, d01, d02⟩ := hB0
  have HB1 := Lib.hid (fun (w' : World) (h : Ext W0 w') => hB1.below h)
  obtain ⟨c10, c11, c12, d10, d11, d12⟩ := hB1
  have HF := Lib.hid (fun (w' : World) (h : Ext W0 w') => hB2.below h)
  obtain ⟨r0, r1, r2, g0, g1, g2⟩ := hB2
  have HE := Lib.hid x0
  clear x0
  have f0 : Ext W0 W0 := Below.refl _ _
  go_wp2_with (first
    | (go_at_call 47; (with_reducible refine (sign_e (HYS.out _ HE.out) HZ.out).mono ?_); rintro e s1 ⟨rfl, z1⟩; obtain ⟨c00, c01, c02, d00, d01, d02⟩ := HB0.out _ z1; obtain ⟨c10, c11, c12, d10, d11, d12⟩ := HB1.out _ z1; obtain ⟨r0, r1, r2, g0, g1, g2⟩ := HF.out _ z1)
    | (go_at_call 49; (with_reducible refine (mul_f (HX.out _ (HE.out.trans z1)) (HYI.out _ (HE.out.trans z1)) HL.out).mono ?_); rintro e s3 ⟨b3, A3, k3, c3, B3, l3, d3, rfl, h3, z3, n3, m3⟩; have f3 := z1.trans z3; obtain ⟨r0, r1, r2, g0, g1, g2⟩ := HF.out _ f3))
  obtain ⟨q0, q1, q2⟩ := set3 r0 r1 r2 (.bool b3) (.slice A3 k3 c3) (.slice B3 l3 d3)
  refine bodyPost_ret (v := .tuple #[.agg #[.bool b3, .slice A3 k3 c3, .slice B3 l3 d3], .int .i64 0]) (by simp [results, Try.results50, go_sem, q0, q1, q2]) rfl ?_
  exact GivesFE.box (B := w.heap.size + 1 + 1) (HE.out.trans f3) h3 (n3.mono (by have := z1.size; omega)) (m3.mono (by have := z1.size; omega)) (by omega)

end Go.Proofs.Ytmfigiifflljpaa
