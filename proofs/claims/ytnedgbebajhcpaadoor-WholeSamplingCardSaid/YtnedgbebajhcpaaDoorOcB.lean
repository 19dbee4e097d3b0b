/- occupancy: power, missed, Mean. -/
import Derived.Test.YtnedgbebajhcpaaDoorOcA
import Derived.Test.YtnedgbebajhcpaaDoorFracN
import Derived.Test.YtnedgbebajhcpaaDoorFracT
set_option linter.unusedVariables false
set_option linter.unusedSimpArgs false
set_option maxRecDepth 100000
namespace Go.Proofs.YtnedgbebajhcpaaDoor
open Go.RowKit Num

/-- The power of a fraction, its sign left out. -/
def powQ (q : Rat) (n : Nat) : Rat := frac false (q.num.natAbs ^ n) (q.den ^ n)
theorem frac_cancel {x y k : Nat} (hk : k ≠ 0) : frac false (x * k) (y * k) = frac false x y := by
  rw [frac_false, frac_false, Rat.natCast_mul, Rat.natCast_mul]
  have hk' : (k : Rat) ≠ 0 := by exact_mod_cast hk
  by_cases hy : y = 0
  · subst hy
    simp [Rat.div_def]
  · have hy' : (y : Rat) ≠ 0 := by exact_mod_cast hy
    simp only [Rat.div_def]
    grind
theorem powQ_frac {a b n : Nat} (hb : b ≠ 0) : powQ (frac false a b) n = frac false (a ^ n) (b ^ n) := by
  unfold powQ
  have hg : 0 < Nat.gcd a b := Nat.gcd_pos_of_pos_right _ (Nat.pos_of_ne_zero hb)
  rw [frac_num hb, frac_den hb]
  have e1 : a ^ n = (a / Nat.gcd a b) ^ n * Nat.gcd a b ^ n := by rw [← Nat.mul_pow, Nat.div_mul_cancel (Nat.gcd_dvd_left a b)]
  have e2 : b ^ n = (b / Nat.gcd a b) ^ n * Nat.gcd a b ^ n := by rw [← Nat.mul_pow, Nat.div_mul_cancel (Nat.gcd_dvd_right a b)]
  rw [e1, e2, frac_cancel (by have := Nat.pow_pos (n := n) hg; omega)]
theorem pow_limbs {a n : Nat} (ha : a < 1000000000) (hn : n ≤ 30) : (limbsOf (a ^ n)).length ≤ 31 := Nat.le_trans (len_of_le_pow (Nat.le_refl _) ha) (by omega)
theorem powQ_fb {q : Rat} {n : Nat} (h1 : q.num.natAbs < 1000000000) (h2 : q.den < 1000000000) (hn : n ≤ 30) : FB (powQ q n) 31 := frac_fb (pow_limbs h1 hn) (pow_limbs h2 hn) (by decide)

set_option maxHeartbeats 4000000 in
theorem opower {b : Bool} {s t : Value} {q : Rat} {n : Nat} {w : World} (hx : FracV w b s t q) (h1 : q.num.natAbs < 1000000000) (h2 : q.den < 1000000000) (hn : n ≤ 30) (ht : Tab10 w) :
    Calls Tryd.prog 59 #[.agg #[.bool b, s, t], .int .i64 n] w (GivesF w (powQ q n)) := by
  have hx1 := hx.2.1
  have hx2 := hx.2.2
  clear hx
  have HL1 := Lib.hid (pow_limbs h1 hn)
  have HL2 := Lib.hid (pow_limbs h2 hn)
  have HA := Lib.hid h1
  have HD := Lib.hid h2
  have HT := Lib.hid (fun (w' : World) (h : Ext w w') => ht.ext h)
  have HX := Lib.hid (fun (w' : World) (h : Ext w w') => (⟨(hx1.nat (by unfold Fit; have := len_of_le_pow (x := q.num.natAbs) (b := q.num.natAbs) (n := 1) (by simp) h1; omega)).below h, (hx2.nat (by unfold Fit; have := len_of_le_pow (x := q.den) (b := q.den) (n := 1) (by simp) h2; omega)).below h⟩ : NatV w' s q.num.natAbs ∧ NatV w' t q.den))
  clear hx1 hx2 h1 h2 ht
  go_enter Tryd.func59, Tryd.ntmps59
  go_upto_region 1 with (fail)
  have hB0 := (FBox.new w (.bool b) (s) (t) 28).below (ext_alloc (Below.refl _ _) (.cells #[.bool false, .slice none 0 0, .slice none 0 0] 28))
  have hB1 := FBox.new (w.alloc (.cells #[.bool b, s, t] 28)) (.bool false) (.slice none 0 0) (.slice none 0 0) 28
  rw [show (w.alloc (.cells #[.bool b, s, t] 28)).heap.size = w.heap.size + 1 from by simp] at hB1
  have x0 : Ext w ((w.alloc (.cells #[.bool b, s, t] 28)).alloc (.cells #[.bool false, .slice none 0 0, .slice none 0 0] 28)) := ext_alloc (ext_alloc (Below.refl _ _) _) _
  have hs0 : w.heap.size + 1 + 1 ≤ ((w.alloc (.cells #[.bool b, s, t] 28)).alloc (.cells #[.bool false, .slice none 0 0, .slice none 0 0] 28)).heap.size := by simp
  generalize ((w.alloc (.cells #[.bool b, s, t] 28)).alloc (.cells #[.bool false, .slice none 0 0, .slice none 0 0] 28)) = W0 at *
  have HB0 := Lib.hid (fun (w' : World) (h : Ext W0 w') => hB0.below h)
  obtain ⟨c00, c01, c02, d00, d01, d02⟩ := hB0
  have HF := Lib.hid (fun (w' : World) (h : Ext W0 w') => hB1.below h)
  obtain ⟨r0, r1, r2, g0, g1, g2⟩ := hB1
  have HE := Lib.hid x0
  clear x0
  have f0 : Ext W0 W0 := Below.refl _ _
  go_wp2_with fail
  refine (pow_e (N := n) (HX.out _ HE.out).1 HA.out (by omega) (fun w' h hx => digits_tab hx HA.out (HT.out _ (HE.out.trans h)))).mono ?_
  rintro e w5 ⟨A5, k5, c5, rfl, h5, y5, n5⟩
  clear n5
  go_upto_region 2 with (fail)
  have hB5 : (w5.alloc (.cells #[.slice A5 k5 c5] 26)).cell? ⟨w5.heap.size, 0, none⟩ = some (.slice A5 k5 c5) := by simp [go_sem]
  have Y5 : Ext W0 (w5.alloc (.cells #[.slice A5 k5 c5] 26)) := ext_alloc y5 _
  have h5 := h5.below (ext_alloc (Below.refl _ _) (.cells #[.slice A5 k5 c5] 26))
  have hsz5 : w5.heap.size < (w5.alloc (.cells #[.slice A5 k5 c5] 26)).heap.size := by simp
  have hlo5 : W0.heap.size ≤ w5.heap.size := y5.size
  generalize w5.alloc (.cells #[.slice A5 k5 c5] 26) = W5 at *
  generalize w5.heap.size = B5 at *
  have HB5 := Lib.hid (fun (w' : World) (h : Ext W5 w') => ((h.cell (p := ⟨B5, 0, none⟩) (World.block_lt_of_cell? _ _ hB5)).trans hB5 : w'.cell? ⟨B5, 0, none⟩ = some (.slice A5 k5 c5)))
  clear hB5 y5
  obtain ⟨c00, c01, c02, d00, d01, d02⟩ := HB0.out _ Y5
  go_wp2_with fail
  refine (pow_e (N := n) (HX.out _ (HE.out.trans Y5)).2 HD.out (by omega) (fun w' h hx => digits_tab hx HD.out (HT.out _ (HE.out.trans (Y5.trans h))))).mono ?_
  rintro e w7 ⟨A7, k7, c7, rfl, h7, y7, n7⟩
  have h5 := h5.below y7
  clear n7
  go_upto_region 3 with (fail)
  have hB7 : (w7.alloc (.cells #[.slice A7 k7 c7] 26)).cell? ⟨w7.heap.size, 0, none⟩ = some (.slice A7 k7 c7) := by simp [go_sem]
  have Y7 : Ext W5 (w7.alloc (.cells #[.slice A7 k7 c7] 26)) := ext_alloc y7 _
  have h5 := h5.below (ext_alloc (Below.refl _ _) (.cells #[.slice A7 k7 c7] 26))
  have h7 := h7.below (ext_alloc (Below.refl _ _) (.cells #[.slice A7 k7 c7] 26))
  have hsz7 : w7.heap.size < (w7.alloc (.cells #[.slice A7 k7 c7] 26)).heap.size := by simp
  have hlo7 : W5.heap.size ≤ w7.heap.size := y7.size
  generalize w7.alloc (.cells #[.slice A7 k7 c7] 26) = W7 at *
  generalize w7.heap.size = B7 at *
  have HB7 := Lib.hid (fun (w' : World) (h : Ext W7 w') => ((h.cell (p := ⟨B7, 0, none⟩) (World.block_lt_of_cell? _ _ hB7)).trans hB7 : w'.cell? ⟨B7, 0, none⟩ = some (.slice A7 k7 c7)))
  clear hB7 y7
  have e5 := HB5.out _ Y7
  have e7 := HB7.out _ (Below.refl _ _)
  have HN := Lib.hid (⟨h5.nat (by have := HL1.out; unfold Fit; omega), h7.nat (by have := HL2.out; unfold Fit; omega)⟩ : NatV W7 (.slice A5 k5 c5) (q.num.natAbs ^ n) ∧ NatV W7 (.slice A7 k7 c7) (q.den ^ n))
  clear h5 h7
  go_wp2_with (go_at_call 50; (with_reducible refine (norm_f (L := 31) (AnyF.mk (b := false) HN.out.1 HN.out.2 HL1.out HL2.out) (by omega)).mono ?_); rintro _ s6 ⟨b6, A6, k6, c6, B6, l6, d6, rfl, h6, z6, n6, m6⟩; obtain ⟨r0, r1, r2, g0, g1, g2⟩ := HF.out _ (Y5.trans (Y7.trans z6)))
  obtain ⟨q0, q1, q2⟩ := set3 r0 r1 r2 (.bool b6) (.slice A6 k6 c6) (.slice B6 l6 d6)
  refine bodyPost_ret (v := .agg #[.bool b6, .slice A6 k6 c6, .slice B6 l6 d6]) (by simp [results, Tryd.results59, go_sem, q0, q1, q2]) rfl ?_
  exact GivesF.box (B := w.heap.size + 1) (HE.out.trans (Y5.trans (Y7.trans z6))) h6 (n6.mono (by have := Y5.size; have := Y7.size; omega)) (m6.mono (by have := Y5.size; have := Y7.size; omega)) (by omega)

/-- 1, as the program makes it. -/
abbrev one1 : Rat := ((1 : Int) : Rat) / ((1 : Int) : Rat)
theorem one1_fb : FB one1 3 := fb_i64 (by omega) (by omega)

set_option maxHeartbeats 4000000 in
theorem omissed {b : Bool} {s t : Value} {q : Rat} {n : Nat} {w : World} (hx : AnyF w b s t q 3) (hq : FB q 3) (h1 : (one1 - q).num.natAbs < 1000000000) (h2 : (one1 - q).den < 1000000000) (hn : n ≤ 30) (ht : Tab10 w) :
    Calls Tryd.prog 34 #[.int .i64 n, .agg #[.bool b, s, t]] w (GivesF w (powQ (one1 - q) n)) := by
  have HA := Lib.hid h1
  have HD := Lib.hid h2
  have HQ := Lib.hid hq
  have HO := Lib.hid one1_fb
  have HT := Lib.hid (fun (w' : World) (h : Ext w w') => ht.ext h)
  clear h1 h2 ht hq
  go_enter Tryd.func34, Tryd.ntmps34
  go_upto_region 1 with (fail)
  have hB0 := (FBox.new w (.bool b) (s) (t) 28).below (ext_alloc (Below.refl _ _) (.cells #[.bool false, .slice none 0 0, .slice none 0 0] 28))
  have hB1 := FBox.new (w.alloc (.cells #[.bool b, s, t] 28)) (.bool false) (.slice none 0 0) (.slice none 0 0) 28
  rw [show (w.alloc (.cells #[.bool b, s, t] 28)).heap.size = w.heap.size + 1 from by simp] at hB1
  have x0 : Ext w ((w.alloc (.cells #[.bool b, s, t] 28)).alloc (.cells #[.bool false, .slice none 0 0, .slice none 0 0] 28)) := ext_alloc (ext_alloc (Below.refl _ _) _) _
  have hs0 : w.heap.size + 1 + 1 ≤ ((w.alloc (.cells #[.bool b, s, t] 28)).alloc (.cells #[.bool false, .slice none 0 0, .slice none 0 0] 28)).heap.size := by simp
  generalize ((w.alloc (.cells #[.bool b, s, t] 28)).alloc (.cells #[.bool false, .slice none 0 0, .slice none 0 0] 28)) = W0 at *
  have HB0 := Lib.hid (fun (w' : World) (h : Ext W0 w') => hB0.below h)
  obtain ⟨c00, c01, c02, d00, d01, d02⟩ := hB0
  have HF := Lib.hid (fun (w' : World) (h : Ext W0 w') => hB1.below h)
  obtain ⟨r0, r1, r2, g0, g1, g2⟩ := hB1
  have HE := Lib.hid x0
  clear x0
  have f0 : Ext W0 W0 := Below.refl _ _
  have HX := Lib.hid (hx.below HE.out)
  have HC := Lib.hid (fun (w' : World) (h : Ext W0 w') => (⟨(HB0.out _ h).1, (HB0.out _ h).2.1, (HB0.out _ h).2.2.1⟩ : w'.cell? ⟨w.heap.size, 0, none⟩ = some (.bool b) ∧ w'.cell? ⟨w.heap.size, 1, none⟩ = some s ∧ w'.cell? ⟨w.heap.size, 2, none⟩ = some t))
  have HCA := Lib.hid (fun (w' : World) (h : Ext W0 w') (x y z : Value) => (fun (k : FBox _ _ _ _ _) => (⟨k.1, k.2.1, k.2.2.1⟩ : _ ∧ _ ∧ _)) (FBox.away (b' := w.heap.size + 1) (HB0.out _ h) (by omega) x y z))
  clear hx
  go_region_held3 (fun w' => w'.cell? ⟨w.heap.size, 0, none⟩ = some (.bool b) ∧ w'.cell? ⟨w.heap.size, 1, none⟩ = some s ∧ w'.cell? ⟨w.heap.size, 2, none⟩ = some t) (first | exact HC.out _ (by first | ((repeat first | assumption | exact Below.refl _ _ | refine ext_alloc ?_ _ | refine ext_drew ?_ | refine ext_set ?_ (by first | omega | (simp; done) | (simp; omega)) _); done) | fail) | exact HCA.out _ f3 _ _ _)
    (first
      | (go_at_call 13; (with_reducible refine (fof_n (n := 1) (d := 1) (by omega) (by omega)).mono ?_); rintro _ s1 ⟨b1, A1, k1, c1, B1, l1, d1, rfl, h1, z1, _⟩; have f1 : Ext W0 s1 := Ext.trans (by first | ((repeat first | assumption | exact Below.refl _ _ | refine ext_alloc ?_ _ | refine ext_drew ?_ | refine ext_set ?_ (by first | omega | (simp; done) | (simp; omega)) _); done) | fail) z1)
      | (go_at_call 12; (with_reducible refine (sub_f (FracV.any h1 HO.out (by omega)) (HX.out.below (by first | ((repeat first | assumption | exact Below.refl _ _ | refine ext_alloc ?_ _ | refine ext_drew ?_ | refine ext_set ?_ (by first | omega | (simp; done) | (simp; omega)) _); done) | fail)) HO.out HQ.out (by omega)).mono ?_); rintro _ s2 ⟨b2, A2, k2, c2, B2, l2, d2, rfl, h2, z2, _⟩; have f2 : Ext W0 s2 := Ext.trans (by first | ((repeat first | assumption | exact Below.refl _ _ | refine ext_alloc ?_ _ | refine ext_drew ?_ | refine ext_set ?_ (by first | omega | (simp; done) | (simp; omega)) _); done) | fail) z2)
      | (go_at_call 59; (with_reducible refine (opower h2 HA.out HD.out hn (HT.out _ (HE.out.trans (by first | ((repeat first | assumption | exact Below.refl _ _ | refine ext_alloc ?_ _ | refine ext_drew ?_ | refine ext_set ?_ (by first | omega | (simp; done) | (simp; omega)) _); done) | fail)))).mono ?_); rintro _ s3 ⟨b3, A3, k3, c3, B3, l3, d3, rfl, h3, z3, n3, m3⟩; have f3 : Ext W0 s3 := Ext.trans (by first | ((repeat first | assumption | exact Below.refl _ _ | refine ext_alloc ?_ _ | refine ext_drew ?_ | refine ext_set ?_ (by first | omega | (simp; done) | (simp; omega)) _); done) | fail) z3; obtain ⟨r0, r1, r2, g0, g1, g2⟩ := HF.out _ f3))
  all_goals go_wp2
  all_goals
    obtain ⟨q0, q1, q2⟩ := set3 r0 r1 r2 (.bool b3) (.slice A3 k3 c3) (.slice B3 l3 d3)
    refine bodyPost_ret (v := .agg #[.bool b3, .slice A3 k3 c3, .slice B3 l3 d3]) (by simp [results, Tryd.results34, go_sem, q0, q1, q2]) rfl ?_
    exact GivesF.box (B := w.heap.size + 1) (HE.out.trans f3) h3 (n3.mono (by have := f2.size; omega)) (m3.mono (by have := f2.size; omega)) (by omega)

/-- The mean number of dies, as the program reckons it. -/
def meanQ (n D : Nat) : Rat := ((D : Int) : Rat) / ((1 : Int) : Rat) * (one1 - powQ (one1 - ((1 : Int) : Rat) / ((D : Int) : Rat)) n)
theorem less_one {D : Nat} (hD : 1 ≤ D) : one1 - ((1 : Int) : Rat) / ((D : Int) : Rat) = frac false (D - 1) D := by
  have hD' : (D : Rat) ≠ 0 := by exact_mod_cast (show D ≠ 0 from by omega)
  rw [frac_false, show ((D - 1 : Nat) : Rat) = (D : Rat) - 1 from by
    have h : ((D - 1 + 1 : Nat) : Rat) = (D : Rat) := by rw [show D - 1 + 1 = D from by omega]
    rw [Rat.natCast_add] at h
    have h1 : ((1 : Nat) : Rat) = 1 := rfl
    grind]
  rw [Rat.intCast_natCast]
  show ((1 : Int) : Rat) / ((1 : Int) : Rat) - _ = _
  simp only [Rat.intCast_one, Rat.div_def]
  grind
theorem less_small {D : Nat} (hD1 : 1 ≤ D) (hD : D ≤ 60) : (one1 - ((1 : Int) : Rat) / ((D : Int) : Rat)).num.natAbs < 1000000000 ∧ (one1 - ((1 : Int) : Rat) / ((D : Int) : Rat)).den < 1000000000 := by
  rw [less_one hD1, frac_num (by omega), frac_den (by omega)]
  have h1 := Nat.div_le_self (D - 1) (Nat.gcd (D - 1) D)
  have h2 := Nat.div_le_self D (Nat.gcd (D - 1) D)
  omega

set_option maxHeartbeats 4000000 in
theorem omean_ok {n D : Nat} {w : World} (hn : n ≤ 30) (hD1 : 1 ≤ D) (hD : D ≤ 60) (ht : Tab10 w) :
    Calls Tryd.prog 11 #[.int .i64 n, .int .i64 D] w (GivesFE w (meanQ n D)) := by
  have HS := Lib.hid (less_small hD1 hD)
  have HO := Lib.hid one1_fb
  have HD1 := Lib.hid (show FB (((1 : Int) : Rat) / ((D : Int) : Rat)) 3 from fb_i64 (by omega) (by omega))
  have HDD := Lib.hid (show FB (((D : Int) : Rat) / ((1 : Int) : Rat)) 3 from fb_i64 (by omega) (by omega))
  have HP := Lib.hid (powQ_fb HS.out.1 HS.out.2 hn)
  have HP2 := Lib.hid (FB.sub one1_fb HP.out (by omega))
  have HT := Lib.hid (fun (w' : World) (h : Ext w w') => ht.ext h)
  clear ht
  unfold meanQ
  go_enter Tryd.func11, Tryd.ntmps11
  go_upto_region 1 with (fail)
  have hF0 := FBox.new w (.bool false) (.slice none 0 0) (.slice none 0 0) 28
  have x0 : Ext w (w.alloc (.cells #[.bool false, .slice none 0 0, .slice none 0 0] 28)) := ext_alloc (Below.refl _ _) _
  have hs0 : w.heap.size + 1 ≤ (w.alloc (.cells #[.bool false, .slice none 0 0, .slice none 0 0] 28)).heap.size := by simp
  generalize w.alloc (.cells #[.bool false, .slice none 0 0, .slice none 0 0] 28) = W0 at *
  have HF := Lib.hid (fun (w' : World) (h : Ext W0 w') => hF0.below h)
  have HE := Lib.hid x0
  have f0 : Ext W0 W0 := Below.refl _ _
  obtain ⟨r0, r1, r2, g0, g1, g2⟩ := hF0
  clear x0
  go_upto_region 5 with (first
    | (go_at_call 33; (with_reducible refine (ocheck_ok (n := (n : Int)) (D := (D : Int)) (by omega) (by omega)).mono ?_); rintro e w1 ⟨rfl, rfl⟩)
    | (go_at_call 13; (with_reducible refine (fof_n (n := 1) (d := 1) (by omega) (by omega)).mono ?_); rintro _ s1 ⟨b1, A1, k1, c1, B1, l1, d1, rfl, h1, z1, _⟩; have HH1 := Lib.hid (fun (w' : World) (h : Ext s1 w') => FracV.any (h1.below h) HO.out (by omega)))
    | (go_at_call 13; (with_reducible refine (fof_n (n := 1) (d := (D : Int)) (by omega) (by omega)).mono ?_); rintro _ s2 ⟨b2, A2, k2, c2, B2, l2, d2, rfl, h2, z2, _⟩)
    | (go_at_call 34; (with_reducible refine (omissed (FracV.any h2 HD1.out (by omega)) HD1.out HS.out.1 HS.out.2 hn (HT.out _ (HE.out.trans (z1.trans z2)))).mono ?_); rintro _ s3 ⟨b3, A3, k3, c3, B3, l3, d3, rfl, h3, z3, _⟩)
    | (go_at_call 12; (with_reducible refine (sub_f (HH1.out _ (z2.trans z3)) (FracV.any h3 HP.out (by omega)) HO.out HP.out (by omega)).mono ?_); rintro _ w4 ⟨b4, A4, k4, c4, A4', k4', c4', rfl, h4, y4, n4, n4'⟩))
  have y4 := z1.trans (z2.trans (z3.trans y4))
  have hlo : w.heap.size + 1 ≤ w4.heap.size := by have := y4.size; omega
  clear n4 n4' z1 z2 z3 h1 h2 h3
  have hG4 := FBox.new w4 (.bool b4) (.slice A4 k4 c4) (.slice A4' k4' c4') 28
  have Y4 : Ext w1 (w4.alloc (.cells #[.bool b4, .slice A4 k4 c4, .slice A4' k4' c4'] 28)) := ext_alloc y4 _
  have h4 := h4.below (ext_alloc (Below.refl _ _) (.cells #[.bool b4, .slice A4 k4 c4, .slice A4' k4' c4'] 28))
  have hsz4 : w4.heap.size < (w4.alloc (.cells #[.bool b4, .slice A4 k4 c4, .slice A4' k4' c4'] 28)).heap.size := by simp
  generalize w4.alloc (.cells #[.bool b4, .slice A4 k4 c4, .slice A4' k4' c4'] 28) = W4 at *
  generalize w4.heap.size = B4 at *
  have HG4 := Lib.hid (fun (w' : World) (h : Ext W4 w') => hG4.below h)
  have HY := Lib.hid (fun (w' : World) (h : Ext W4 w') => FracV.any (h4.below h) HP2.out (by omega))
  have e4 : Ext W4 W4 := Below.refl _ _
  have HC := Lib.hid (fun (w' : World) (h : Ext W4 w') => (⟨(HG4.out _ h).1, (HG4.out _ h).2.1, (HG4.out _ h).2.2.1⟩ : w'.cell? ⟨B4, 0, none⟩ = some (.bool b4) ∧ w'.cell? ⟨B4, 1, none⟩ = some (.slice A4 k4 c4) ∧ w'.cell? ⟨B4, 2, none⟩ = some (.slice A4' k4' c4')))
  have HCA := Lib.hid (fun (w' : World) (h : Ext W4 w') (x y z : Value) => (fun (k : FBox _ _ _ _ _) => (⟨k.1, k.2.1, k.2.2.1⟩ : _ ∧ _ ∧ _)) (FBox.away (b' := w.heap.size) (HG4.out _ h) (by omega) x y z))
  obtain ⟨m0, m1, m2, gm0, gm1, gm2⟩ := hG4
  clear h4
  go_region_held3 (fun w' => w'.cell? ⟨B4, 0, none⟩ = some (.bool b4) ∧ w'.cell? ⟨B4, 1, none⟩ = some (.slice A4 k4 c4) ∧ w'.cell? ⟨B4, 2, none⟩ = some (.slice A4' k4' c4')) (first | exact HC.out _ (by first | ((repeat first | assumption | exact Below.refl _ _ | refine ext_alloc ?_ _ | refine ext_drew ?_ | refine ext_set ?_ (by first | omega | (simp; done) | (simp; omega)) _); done) | fail) | exact HCA.out _ f9 _ _ _)
    (first
      | (go_at_call 13; (with_reducible refine (fof_n (n := (D : Int)) (d := 1) (by omega) (by omega)).mono ?_); rintro _ s8 ⟨b8, A8, k8, c8, B8, l8, d8, rfl, h8, z8, _⟩; have f8 : Ext W4 s8 := Ext.trans (by first | ((repeat first | assumption | exact Below.refl _ _ | refine ext_alloc ?_ _ | refine ext_drew ?_ | refine ext_set ?_ (by first | omega | (simp; done) | (simp; omega)) _); done) | fail) z8)
      | (go_at_call 15; (with_reducible refine (mul_f (FracV.any h8 HDD.out (by omega)) (HY.out _ (by first | ((repeat first | assumption | exact Below.refl _ _ | refine ext_alloc ?_ _ | refine ext_drew ?_ | refine ext_set ?_ (by first | omega | (simp; done) | (simp; omega)) _); done) | fail)) (by omega)).mono ?_); rintro _ s9 ⟨b9, A9, k9, c9, B9, l9, d9, rfl, h9, z9, n9, m9⟩; have f9 : Ext W4 s9 := Ext.trans (by first | ((repeat first | assumption | exact Below.refl _ _ | refine ext_alloc ?_ _ | refine ext_drew ?_ | refine ext_set ?_ (by first | omega | (simp; done) | (simp; omega)) _); done) | fail) z9; obtain ⟨r0, r1, r2, g0, g1, g2⟩ := HF.out _ (Y4.trans f9)))
  all_goals go_wp2
  all_goals
    obtain ⟨q0, q1, q2⟩ := set3 r0 r1 r2 (.bool b9) (.slice A9 k9 c9) (.slice B9 l9 d9)
    refine bodyPost_ret (v := .tuple #[.agg #[.bool b9, .slice A9 k9 c9, .slice B9 l9 d9], .int .i64 0]) (by simp [results, Tryd.results11, go_sem, q0, q1, q2]) rfl ?_
    exact GivesFE.box (HE.out.trans (Y4.trans f9)) h9 (n9.mono (by have := Y4.size; have := f8.size; omega)) (m9.mono (by have := Y4.size; have := f8.size; omega)) (Nat.le_refl _)

end Go.Proofs.YtnedgbebajhcpaaDoor
