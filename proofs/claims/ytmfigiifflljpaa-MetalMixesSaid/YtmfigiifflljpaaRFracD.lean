/- ref02: Div. -/
import Derived.Test.YtmfigiifflljpaaRFrac
import Derived.Test.YtmfigiifflljpaaFres
set_option linter.unusedVariables false
set_option linter.unusedSimpArgs false
set_option maxRecDepth 100000
namespace Go.Proofs.Ytmfigiifflljpaa
open Go.RowKit Num

theorem num_ne {q : Rat} (h : q ≠ 0) : q.num.natAbs ≠ 0 := by
  intro h1
  exact h (by rw [← Rat.num_eq_zero]; omega)
theorem div_swap {p q : Rat} (h : q ≠ 0) : p / q = p * frac (decide (q < 0)) q.den q.num.natAbs := by
  rw [frac_inv, frac_self, Rat.div_def]

set_option maxHeartbeats 4000000 in
theorem rdiv_no {b b' : Bool} {s t s' t' : Value} {q : Rat} {M : Nat} {w : World} (hy : AnyF w b' s' t' q M) (hM : M ≤ 549755813887) (hq : q = 0) :
    Calls Try.prog 69 #[.agg #[.bool b, s, t], .agg #[.bool b', s', t']] w (GivesFN w 12) := by
  subst hq
  go_enter Try.func69, Try.ntmps69
  go_upto_region 1 with (fail)
  have hB0 := ((FBox.new w (.bool b) (s) (t) 34).below (ext_alloc (Below.refl _ _) (.cells #[.bool b', s', t'] 34))).below (ext_alloc (Below.refl _ _) (.cells #[.bool false, .slice none 0 0, .slice none 0 0] 34))
  have hB1 := (FBox.new (w.alloc (.cells #[.bool b, s, t] 34)) (.bool b') (s') (t') 34).below (ext_alloc (Below.refl _ _) (.cells #[.bool false, .slice none 0 0, .slice none 0 0] 34))
  rw [show (w.alloc (.cells #[.bool b, s, t] 34)).heap.size = w.heap.size + 1 from by simp] at hB1
  have hB2 := FBox.new ((w.alloc (.cells #[.bool b, s, t] 34)).alloc (.cells #[.bool b', s', t'] 34)) (.bool false) (.slice none 0 0) (.slice none 0 0) 34
  rw [show ((w.alloc (.cells #[.bool b, s, t] 34)).alloc (.cells #[.bool b', s', t'] 34)).heap.size = w.heap.size + 1 + 1 from by simp] at hB2
  have x0 : Ext w (((w.alloc (.cells #[.bool b, s, t] 34)).alloc (.cells #[.bool b', s', t'] 34)).alloc (.cells #[.bool false, .slice none 0 0, .slice none 0 0] 34)) := ext_alloc (ext_alloc (ext_alloc (Below.refl _ _) _) _) _
  have hs0 : w.heap.size + 1 + 1 + 1 ≤ (((w.alloc (.cells #[.bool b, s, t] 34)).alloc (.cells #[.bool b', s', t'] 34)).alloc (.cells #[.bool false, .slice none 0 0, .slice none 0 0] 34)).heap.size := by simp
  generalize (((w.alloc (.cells #[.bool b, s, t] 34)).alloc (.cells #[.bool b', s', t'] 34)).alloc (.cells #[.bool false, .slice none 0 0, .slice none 0 0] 34)) = W0 at *
  have HB0 := Lib.hid (fun (w' : World) (h : Ext W0 w') => hB0.below h)
  obtain ⟨c00, c01, c02, d00, d01, d02⟩ := hB0
  have HB1 := Lib.hid (fun (w' : World) (h : Ext W0 w') => hB1.below h)
  obtain ⟨c10, c11, c12, d10, d11, d12⟩ := hB1
  have HF := Lib.hid (fun (w' : World) (h : Ext W0 w') => hB2.below h)
  obtain ⟨r0, r1, r2, g0, g1, g2⟩ := hB2
  have HE := Lib.hid x0
  clear x0
  have f0 : Ext W0 W0 := Below.refl _ _
  have HY := Lib.hid (hy.below HE.out)
  clear hy
  go_upto_region 2 with (go_at_call 29; (with_reducible refine (rnorm_f HY.out hM).mono ?_); rintro e s1 ⟨b1, A1, k1, l1, B1, m1, o1, rfl, h1, z1, n1, n1'⟩; have f1 : Ext W0 s1 := Ext.trans (by first | ((repeat first | assumption | exact Below.refl _ _ | refine ext_alloc ?_ _ | refine ext_drew ?_ | refine ext_set ?_ (by first | omega | (simp; done) | (simp; omega)) _); done) | fail) z1; obtain ⟨c10, c11, c12, d10, d11, d12⟩ := HB1.out _ f1; obtain ⟨r0, r1, r2, g0, g1, g2⟩ := HF.out _ f1)
  have P1 := FBox.put (HB1.out _ f1) (.bool b1) (.slice A1 k1 l1) (.slice B1 m1 o1)
  have PR := FBox.away (b' := w.heap.size + 1) (HF.out _ f1) (by omega) (.bool b1) (.slice A1 k1 l1) (.slice B1 m1 o1)
  have V1 := FracV.put (b := w.heap.size + 1) (h1) (n1) (n1') (by omega) (.bool b1) (.slice A1 k1 l1) (.slice B1 m1 o1)
  have E1 := ext_put (b := w.heap.size + 1) (HE.out.trans f1) (by omega) (.bool b1) (.slice A1 k1 l1) (.slice B1 m1 o1)
  generalize ((s1.setCell ⟨w.heap.size + 1, 0, none⟩ (.bool b1)).setCell ⟨w.heap.size + 1, 1, none⟩ (.slice A1 k1 l1)).setCell ⟨w.heap.size + 1, 2, none⟩ (.slice B1 m1 o1) = W1 at *
  have HE1 := Lib.hid E1
  have HR := Lib.hid (fun (w' : World) (h : Ext W1 w') => PR.below h)
  have HV := Lib.hid (show NatV W1 (.slice A1 k1 l1) 0 from V1.2.1.nat (fit_small (by decide)))
  obtain ⟨p0, p1, p2, _, _, _⟩ := P1
  have e1 : Ext W1 W1 := Below.refl _ _
  clear c00 c01 c02 d00 d01 d02 c10 c11 c12 d10 d11 d12 r0 r1 r2 g0 g1 g2 n1 n1' z1 E1 V1 PR h1
  go_wp2_with (go_at_call 58; (with_reducible refine (rzero_t HV.out).mono ?_); rintro e s2 ⟨rfl, z2⟩; have f2 : Ext W1 s2 := Ext.trans (by first | ((repeat first | assumption | exact Below.refl _ _ | refine ext_alloc ?_ _ | refine ext_drew ?_ | refine ext_set ?_ (by first | omega | (simp; done) | (simp; omega)) _); done) | fail) z2; obtain ⟨r0, r1, r2, g0, g1, g2⟩ := HR.out _ f2)
  obtain ⟨q0, q1, q2⟩ := set3 r0 r1 r2 (.bool false) (.slice none 0 0) (.slice none 0 0)
  refine bodyPost_ret (v := .tuple #[.agg #[.bool false, .slice none 0 0, .slice none 0 0], .int .i64 12]) (by simp [results, Try.results69, go_sem, q0, q1, q2]) rfl ?_
  exact ⟨rfl, ext_put (HE1.out.trans f2) (by omega) _ _ _⟩

set_option maxHeartbeats 4000000 in
theorem rdiv_ok {b b' : Bool} {s t s' t' : Value} {p q : Rat} {L M : Nat} {w : World} (hx : AnyF w b s t p L) (hy : AnyF w b' s' t' q M) (fq : FB q M) (hL : L + M ≤ 549755813887) (hq : q ≠ 0) :
    Calls Try.prog 69 #[.agg #[.bool b, s, t], .agg #[.bool b', s', t']] w (GivesFE w (p / q)) := by
  have HQ := Lib.hid hq
  have HFQ := Lib.hid fq
  have HLI := Lib.hid hL
  rw [div_swap hq]
  obtain ⟨q', hq'⟩ : ∃ q', q' = p * frac (decide (q < 0)) q.den q.num.natAbs := ⟨_, rfl⟩
  rw [← hq']
  have HQ' := Lib.hid hq'
  clear hq fq hL hq'
  go_enter Try.func69, Try.ntmps69
  go_upto_region 1 with (fail)
  have hB0 := ((FBox.new w (.bool b) (s) (t) 34).below (ext_alloc (Below.refl _ _) (.cells #[.bool b', s', t'] 34))).below (ext_alloc (Below.refl _ _) (.cells #[.bool false, .slice none 0 0, .slice none 0 0] 34))
  have hB1 := (FBox.new (w.alloc (.cells #[.bool b, s, t] 34)) (.bool b') (s') (t') 34).below (ext_alloc (Below.refl _ _) (.cells #[.bool false, .slice none 0 0, .slice none 0 0] 34))
  rw [show (w.alloc (.cells #[.bool b, s, t] 34)).heap.size = w.heap.size + 1 from by simp] at hB1
  have hB2 := FBox.new ((w.alloc (.cells #[.bool b, s, t] 34)).alloc (.cells #[.bool b', s', t'] 34)) (.bool false) (.slice none 0 0) (.slice none 0 0) 34
  rw [show ((w.alloc (.cells #[.bool b, s, t] 34)).alloc (.cells #[.bool b', s', t'] 34)).heap.size = w.heap.size + 1 + 1 from by simp] at hB2
  have x0 : Ext w (((w.alloc (.cells #[.bool b, s, t] 34)).alloc (.cells #[.bool b', s', t'] 34)).alloc (.cells #[.bool false, .slice none 0 0, .slice none 0 0] 34)) := ext_alloc (ext_alloc (ext_alloc (Below.refl _ _) _) _) _
  have hs0 : w.heap.size + 1 + 1 + 1 ≤ (((w.alloc (.cells #[.bool b, s, t] 34)).alloc (.cells #[.bool b', s', t'] 34)).alloc (.cells #[.bool false, .slice none 0 0, .slice none 0 0] 34)).heap.size := by simp
  generalize (((w.alloc (.cells #[.bool b, s, t] 34)).alloc (.cells #[.bool b', s', t'] 34)).alloc (.cells #[.bool false, .slice none 0 0, .slice none 0 0] 34)) = W0 at *
  have HB0 := Lib.hid (fun (w' : World) (h : Ext W0 w') => hB0.below h)
  obtain ⟨c00, c01, c02, d00, d01, d02⟩ := hB0
  have HB1 := Lib.hid (fun (w' : World) (h : Ext W0 w') => hB1.below h)
  obtain ⟨c10, c11, c12, d10, d11, d12⟩ := hB1
  have HF := Lib.hid (fun (w' : World) (h : Ext W0 w') => hB2.below h)
  obtain ⟨r0, r1, r2, g0, g1, g2⟩ := hB2
  have HE := Lib.hid x0
  clear x0
  have f0 : Ext W0 W0 := Below.refl _ _
  have HY := Lib.hid (hy.below HE.out)
  clear hy
  go_upto_region 2 with (go_at_call 29; (with_reducible refine (rnorm_f HY.out (by have := HLI.out; omega)).mono ?_); rintro e s1 ⟨b1, A1, k1, l1, B1, m1, o1, rfl, h1, z1, n1, n1'⟩; have f1 : Ext W0 s1 := Ext.trans (by first | ((repeat first | assumption | exact Below.refl _ _ | refine ext_alloc ?_ _ | refine ext_drew ?_ | refine ext_set ?_ (by first | omega | (simp; done) | (simp; omega)) _); done) | fail) z1; obtain ⟨c10, c11, c12, d10, d11, d12⟩ := HB1.out _ f1; obtain ⟨r0, r1, r2, g0, g1, g2⟩ := HF.out _ f1)
  have hs1 : w.heap.size + 1 + 1 + 1 ≤ s1.heap.size := by have := f1.size; omega
  have P1 := FBox.put (HB1.out _ f1) (.bool b1) (.slice A1 k1 l1) (.slice B1 m1 o1)
  have P0 := FBox.away (b' := w.heap.size + 1) (HB0.out _ f1) (by omega) (.bool b1) (.slice A1 k1 l1) (.slice B1 m1 o1)
  have PR := FBox.away (b' := w.heap.size + 1) (HF.out _ f1) (by omega) (.bool b1) (.slice A1 k1 l1) (.slice B1 m1 o1)
  have V1 := FracV.put (b := w.heap.size + 1) (h1) (n1) (n1') (by omega) (.bool b1) (.slice A1 k1 l1) (.slice B1 m1 o1)
  have E1 := ext_put (b := w.heap.size + 1) (HE.out.trans f1) (by omega) (.bool b1) (.slice A1 k1 l1) (.slice B1 m1 o1)
  generalize ((s1.setCell ⟨w.heap.size + 1, 0, none⟩ (.bool b1)).setCell ⟨w.heap.size + 1, 1, none⟩ (.slice A1 k1 l1)).setCell ⟨w.heap.size + 1, 2, none⟩ (.slice B1 m1 o1) = W1 at *
  have hs2 : w.heap.size + 1 + 1 < W1.heap.size := World.block_lt_of_cell? _ _ PR.1
  have HE1 := Lib.hid E1
  have HR := Lib.hid (fun (w' : World) (h : Ext W1 w') => PR.below h)
  have HP0 := Lib.hid (fun (w' : World) (h : Ext W1 w') => P0.below h)
  have HP1 := Lib.hid (fun (w' : World) (h : Ext W1 w') => P1.below h)
  have HN := Lib.hid (V1.2.1.nat (Nat.le_trans HFQ.out.1 (by have := HLI.out; omega)))
  have HD := Lib.hid (V1.2.2.nat (Nat.le_trans HFQ.out.2 (by have := HLI.out; omega)))
  have HBQ := Lib.hid V1.1
  have HX := Lib.hid (hx.below E1)
  obtain ⟨a0, a1, a2, _, _, _⟩ := P0
  obtain ⟨p0, p1, p2, _, _, _⟩ := P1
  have e1 : Ext W1 W1 := Below.refl _ _
  clear hx c00 c01 c02 d00 d01 d02 c10 c11 c12 d10 d11 d12 r0 r1 r2 g0 g1 g2 n1 n1' z1 E1 V1 PR h1
  have HY2 := Lib.hid (fun (w' : World) (h : Ext W1 w') => (AnyF.mk (b := b1) (HD.out.below h) (HN.out.below h) HFQ.out.2 HFQ.out.1 : AnyF w' b1 (.slice B1 m1 o1) (.slice A1 k1 l1) (frac b1 q.den q.num.natAbs) M))
  go_wp2_with (first
    | (go_at_call 58; (with_reducible refine (rzero_f HN.out (num_ne HQ.out)).mono ?_); rintro e s2 ⟨rfl, z2⟩; have f2 : Ext W1 s2 := Ext.trans (by first | ((repeat first | assumption | exact Below.refl _ _ | refine ext_alloc ?_ _ | refine ext_drew ?_ | refine ext_set ?_ (by first | omega | (simp; done) | (simp; omega)) _); done) | fail) z2; obtain ⟨a0, a1, a2, _, _, _⟩ := HP0.out _ f2; obtain ⟨p0, p1, p2, _, _, _⟩ := HP1.out _ f2)
    | (go_at_call 63; (with_reducible refine (rmul_f (HX.out.below (by first | ((repeat first | assumption | exact Below.refl _ _ | refine ext_alloc ?_ _ | refine ext_drew ?_ | refine ext_set ?_ (by first | omega | (simp; done) | (simp; omega)) _); done) | fail)) (HY2.out _ (by first | ((repeat first | assumption | exact Below.refl _ _ | refine ext_alloc ?_ _ | refine ext_drew ?_ | refine ext_set ?_ (by first | omega | (simp; done) | (simp; omega)) _); done) | fail)) HLI.out).mono ?_); rintro e s3 ⟨b3, A3, k3, c3, B3, l3, d3, rfl, h3, z3, n3, m3⟩; have f3 : Ext W1 s3 := Ext.trans (by first | ((repeat first | assumption | exact Below.refl _ _ | refine ext_alloc ?_ _ | refine ext_drew ?_ | refine ext_set ?_ (by first | omega | (simp; done) | (simp; omega)) _); done) | fail) z3; obtain ⟨r0, r1, r2, g0, g1, g2⟩ := HR.out _ f3))
  obtain ⟨q0, q1, q2⟩ := set3 r0 r1 r2 (.bool b3) (.slice A3 k3 c3) (.slice B3 l3 d3)
  refine bodyPost_ret (v := .tuple #[.agg #[.bool b3, .slice A3 k3 c3, .slice B3 l3 d3], .int .i64 0]) (by simp [results, Try.results69, go_sem, q0, q1, q2]) rfl ?_
  exact GivesFE.box (B := w.heap.size + 1 + 1) (HE1.out.trans f3) (by rw [HQ'.out, ← HBQ.out]; exact h3) (n3.mono (by have := f2.size; omega)) (m3.mono (by have := f2.size; omega)) (by omega)

end Go.Proofs.Ytmfigiifflljpaa
