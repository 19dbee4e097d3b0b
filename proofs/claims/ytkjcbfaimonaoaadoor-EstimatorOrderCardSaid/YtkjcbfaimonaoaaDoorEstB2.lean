/- estimator.Chao. -/
import Derived.Test.YtkjcbfaimonaoaaDoorEstB
set_option linter.unusedVariables false
set_option linter.unusedSimpArgs false
set_option maxRecDepth 100000
namespace Go.Proofs.YtkjcbfaimonaoaaDoor
open Go.RowKit Num

theorem count_two {zs : List Int} (hs : Samp zs) (hm : mostOf zs < 2) : zs.count 2 = 0 := by
  obtain ⟨_, _, _, m4⟩ := hs.most
  rw [List.count_eq_zero]
  intro h
  obtain ⟨j, hj, e⟩ := List.getElem_of_mem h
  have := m4 j hj
  rw [List.getD_eq_getElem?_getD, List.getElem?_eq_getElem hj, e] at this
  simp at this
  omega
theorem seen_two {zs : List Int} (hs : Samp zs) (hm : 2 ≤ mostOf zs) : (freqs zs).getD 1 0 = (zs.count 2 : Int) := by
  unfold freqs
  rw [frq_getD (by omega), List.take_length]
  rfl
theorem two_ok {zs : List Int} {n d : Value} {A : Option Addr} {c : Nat} {w : World} (hI : IntsV w (.slice A (mostOf zs) c) (freqs zs)) (hs : Samp zs) :
    Calls Tryd.prog 51 #[.agg #[n, d, .slice A (mostOf zs) c]] w (fun e w' => e = .returned (.int .i64 (zs.count 2)) ∧ Ext w w') := by
  have x0 : Ext w (w.alloc (.cells #[n, d, .slice A (mostOf zs) c] 52)) := ext_alloc (Below.refl _ _) _
  by_cases hm : mostOf zs < 2
  · have h0 := count_two hs hm
    rw [h0]
    generalize mostOf zs = m at *
    have hm' : (m : Int) < 2 := by omega
    clear h0
    go_enter Tryd.func51, Tryd.ntmps51
    go_wp2
    go_ret
    exact ⟨rfl, x0⟩
  · obtain ⟨b, o, rfl, hcs⟩ := (hI.below x0).plain (by rw [freqs_length]; omega)
    have hc := hcs 1 (by rw [freqs_length]; omega)
    rw [seen_two hs (by omega)] at hc
    generalize zs.count 2 = k at *
    generalize mostOf zs = m at *
    have hm' : ¬ (m : Int) < 2 := by omega
    have hm2 : (1 : Int) < m := by omega
    go_enter Tryd.func51, Tryd.ntmps51
    go_wp2
    go_ret
    exact ⟨rfl, x0⟩

theorem two_z {zs : List Int} {n d : Value} {A : Option Addr} {c : Nat} {w : World} (hI : IntsV w (.slice A (mostOf zs) c) (freqs zs)) (hs : Samp zs) (h2 : zs.count 2 = 0) :
    Calls Tryd.prog 51 #[.agg #[n, d, .slice A (mostOf zs) c]] w (fun e w' => e = .returned (.int .i64 0) ∧ Ext w w') :=
  (two_ok hI hs).mono fun e w' h => ⟨by rw [h.1, h2]; rfl, h.2⟩
theorem FBox.lt {w : World} {b : Nat} {x y z : Value} (h : FBox w b x y z) : b < w.heap.size := World.block_lt_of_cell? _ _ h.1
/-- A box somewhere that holds a canonical fraction. -/
def FBoxAt (W wx : World) (s : Value) (q : Rat) : Prop := ∃ b c A k l A' k' l', s = .pointer (some ⟨b, 0, none⟩) ∧ W.heap.size ≤ b ∧ FBox wx b (.bool c) (.slice A k l) (.slice A' k' l') ∧ FracV wx c (.slice A k l) (.slice A' k' l') q ∧ Ext W wx
/-- What Chao adds to the dies that were seen. -/
def chaoA (a : Int) : Rat := ((a * (a - 1) : Int) : Rat) / ((2 : Int) : Rat)
def chaoB (a b : Int) : Rat := ((a * a : Int) : Rat) / ((2 * b : Int) : Rat)

set_option maxHeartbeats 8000000 in
theorem echao_a {zs : List Int} {x : Value} {w : World} (hx : IntsV w x zs) (hs : Samp zs) (h2 : zs.count 2 = 0) :
    Calls Tryd.prog 28 #[x] w (GivesFE w (((zs.length : Int) : Rat) / ((1 : Int) : Rat) + chaoA (seen zs 1 : Int))) := by
  have HS := Lib.hid hs
  have hB9 : (1 : Int) ≤ zs.sum ∧ zs.sum ≤ 64 := by
    have := sumUp_le (Nat.le_refl _) hs.2.1
    rw [sumUp_all] at this
    have := hs.1
    exact ⟨by omega, hs.2.2⟩
  have hL9 := hs.1
  have hO9 : seen zs 1 ≤ 64 := Nat.le_trans List.count_le_length hL9.2
  obtain ⟨q, hq⟩ : ∃ q : Rat, q = (((zs.length : Int) : Rat) / ((1 : Int) : Rat) + chaoA (seen zs 1 : Int)) := ⟨_, rfl⟩
  rw [← hq]
  have HV := Lib.hid hq
  clear hq
  have hC9 : zs.count 2 ≤ 64 := Nat.le_trans List.count_le_length hL9.2
  have hp1 : 0 ≤ (seen zs 1 : Int) * (seen zs 1 : Int) := Int.mul_nonneg (by omega) (by omega)
  have hp2 : (seen zs 1 : Int) * (seen zs 1 : Int) ≤ 64 * 64 := Int.mul_le_mul (by omega) (by omega) (by omega) (by omega)
  have hp3 : (seen zs 1 : Int) * ((seen zs 1 : Int) - 1) = (seen zs 1 : Int) * (seen zs 1 : Int) - (seen zs 1 : Int) := by rw [Int.mul_sub, Int.mul_one]
  have hw1 : IntKind.i64.wrap ((seen zs 1 : Int) - 1) = (seen zs 1 : Int) - 1 := wrap_in (by omega)
  have hw2 : IntKind.i64.wrap ((seen zs 1 : Int) * ((seen zs 1 : Int) - 1)) = (seen zs 1 : Int) * ((seen zs 1 : Int) - 1) := wrap_in (by omega)
  have HQ := Lib.hid (show -9223372036854775808 ≤ (seen zs 1 : Int) * ((seen zs 1 : Int) - 1) ∧ (seen zs 1 : Int) * ((seen zs 1 : Int) - 1) ≤ 9223372036854775807 from by omega)
  have HL := Lib.hid (show -9223372036854775808 ≤ (zs.length : Int) ∧ (zs.length : Int) ≤ 9223372036854775807 from by omega)
  have HFL := Lib.hid (fb_i64 HL.out (show -9223372036854775808 ≤ (1 : Int) ∧ (1 : Int) ≤ 9223372036854775807 from by omega))
  have HFM := Lib.hid (show FB (chaoA (seen zs 1 : Int)) 3 from fb_i64 (by omega) (by omega))
  have H2 := Lib.hid h2
  clear h2
  clear hp1 hp2 hp3
  go_enter Tryd.func28, Tryd.ntmps28
  go_upto_region 1 with (fail)
  have hF0 := FBox.new w (.bool false) (.slice none 0 0) (.slice none 0 0) 32
  have x0 : Ext w (w.alloc (.cells #[.bool false, .slice none 0 0, .slice none 0 0] 32)) := ext_alloc (Below.refl _ _) _
  have hs0 : w.heap.size + 1 ≤ (w.alloc (.cells #[.bool false, .slice none 0 0, .slice none 0 0] 32)).heap.size := by simp
  generalize w.alloc (.cells #[.bool false, .slice none 0 0, .slice none 0 0] 32) = W0 at *
  have HF := Lib.hid (fun (w' : World) (h : Ext W0 w') => hF0.below h)
  have HE := Lib.hid x0
  have f0 : Ext W0 W0 := Below.refl _ _
  obtain ⟨r0, r1, r2, g0, g1, g2⟩ := hF0
  clear x0
  have hX := hx.below HE.out
  clear hs hx
  go_upto_region 2 with (go_at_call 39; (with_reducible refine (read_ok hX HS.out).mono ?_); rintro e w1 ⟨A1, c1, rfl, h1, x1, n1⟩)
  have hB0 := FBox.new w1 (.int .i64 zs.sum) (.int .i64 zs.length) (.slice A1 (mostOf zs) c1) 52
  have x2 : Ext W0 (w1.alloc (.cells #[.int .i64 zs.sum, .int .i64 zs.length, .slice A1 (mostOf zs) c1] 52)) := ext_alloc x1 _
  have hI := h1.below (ext_alloc (Below.refl _ _) (.cells #[.int .i64 zs.sum, .int .i64 zs.length, .slice A1 (mostOf zs) c1] 52))
  have hlt1 : w1.heap.size < (w1.alloc (.cells #[.int .i64 zs.sum, .int .i64 zs.length, .slice A1 (mostOf zs) c1] 52)).heap.size := by simp
  generalize w1.alloc (.cells #[.int .i64 zs.sum, .int .i64 zs.length, .slice A1 (mostOf zs) c1] 52) = W1 at *
  have hb1 : w.heap.size + 1 ≤ w1.heap.size := Nat.le_trans hs0 x1.size
  generalize w1.heap.size = B at *
  have HI := Lib.hid hI
  have HB := Lib.hid (fun (w' : World) (h : Ext W1 w') => hB0.below h)
  have HC := Lib.hid (fun (w' : World) (h : Ext W1 w') => (⟨(hB0.below h).1, (hB0.below h).2.1, (hB0.below h).2.2.1⟩ : w'.cell? ⟨B, 0, none⟩ = some (.int .i64 zs.sum) ∧ w'.cell? ⟨B, 1, none⟩ = some (.int .i64 zs.length) ∧ w'.cell? ⟨B, 2, none⟩ = some (.slice A1 (mostOf zs) c1)))
  have HCA := Lib.hid (fun (w' : World) (h : Ext W1 w') (x y z : Value) => (fun (k : FBox _ _ _ _ _) => (⟨k.1, k.2.1, k.2.2.1⟩ : _ ∧ _ ∧ _)) (FBox.away (b' := w.heap.size) (HB.out _ h) (by omega) x y z))
  have HCB := Lib.hid (fun (w' : World) (b' : Nat) (h : Ext W1 w') (hne : b' ≠ B) (x y z : Value) => (fun (k : FBox _ _ _ _ _) => (⟨k.1, k.2.1, k.2.2.1⟩ : _ ∧ _ ∧ _)) (FBox.away (b' := b') (HB.out _ h) hne x y z))
  clear h1 hX hI n1
  obtain ⟨b0, b1, b2, _, _, _⟩ := hB0
  have f0 : Ext W1 W1 := Below.refl _ _
  go_upto_region 4 with (fail)
  go_cut [6] (fun mv wx => FBoxAt W1 wx mv (chaoA (seen zs 1 : Int)))
  case first =>
    go_region_held3 (fun w' => w'.cell? ⟨B, 0, none⟩ = some (.int .i64 zs.sum) ∧ w'.cell? ⟨B, 1, none⟩ = some (.int .i64 zs.length) ∧ w'.cell? ⟨B, 2, none⟩ = some (.slice A1 (mostOf zs) c1)) (exact HC.out _ (by first | ((repeat first | assumption | exact Below.refl _ _ | refine ext_alloc ?_ _ | refine ext_drew ?_ | refine ext_set ?_ (by first | omega | (simp; done) | (simp; omega)) _); done) | fail))
      (first
        | (go_at_call 45; (with_reducible refine (one_ok (HI.out.below (by first | ((repeat first | assumption | exact Below.refl _ _ | refine ext_alloc ?_ _ | refine ext_drew ?_ | refine ext_set ?_ (by first | omega | (simp; done) | (simp; omega)) _); done) | fail)) HS.out).mono ?_); rintro _ s1 ⟨rfl, z1⟩; have f1 : Ext W1 s1 := Ext.trans (by first | ((repeat first | assumption | exact Below.refl _ _ | refine ext_alloc ?_ _ | refine ext_drew ?_ | refine ext_set ?_ (by first | omega | (simp; done) | (simp; omega)) _); done) | fail) z1; have y1 : W1.heap.size ≤ s1.heap.size := f1.size; (try (have dF := FBox.below dF z1)); (try (have dF := FBox.below (FBox.below dF (ext_drew (Below.refl _ _))) z1)); (try (have dF := FBox.below (FBox.new _ (.bool false) (.slice none 0 0) (.slice none 0 0) _) z1)); (try (have dF := FBox.below (FBox.below (FBox.new _ (.bool false) (.slice none 0 0) (.slice none 0 0) _) (ext_drew (Below.refl _ _))) z1)); (try (have dG := dF; obtain ⟨e0, e1, e2, g0, g1, g2⟩ := dG)); (try (have y1b := FBox.lt dF)))
        | (go_at_call 26; (with_reducible refine (fof_n HQ.out (by omega)).mono ?_); rintro _ s3 ⟨b3, A3, k3, c3, B3, l3, d3, rfl, h3, z3, n3, m3⟩; have f3 : Ext W1 s3 := Ext.trans (by first | ((repeat first | assumption | exact Below.refl _ _ | refine ext_alloc ?_ _ | refine ext_drew ?_ | refine ext_set ?_ (by first | omega | (simp; done) | (simp; omega)) _); done) | fail) z3; have y3 : W1.heap.size ≤ s3.heap.size := f3.size; (try (have dF := FBox.below dF z3)); (try (have dF := FBox.below (FBox.below dF (ext_drew (Below.refl _ _))) z3)); (try (have dF := FBox.below (FBox.new _ (.bool false) (.slice none 0 0) (.slice none 0 0) _) z3)); (try (have dF := FBox.below (FBox.below (FBox.new _ (.bool false) (.slice none 0 0) (.slice none 0 0) _) (ext_drew (Below.refl _ _))) z3)); (try (have dG := dF; obtain ⟨e0, e1, e2, g0, g1, g2⟩ := dG))))
    all_goals go_wp2
    all_goals go_meet
    all_goals first
      | (refine ⟨_, b3, A3, k3, c3, B3, l3, d3, rfl, ?_, FBox.new _ _ _ _ _, h3.below (ext_alloc (Below.refl _ _) _), ?_⟩ <;> first | omega | ((repeat first | assumption | exact Below.refl _ _ | refine ext_alloc ?_ _ | refine ext_drew ?_ | (refine ext_set ?_ ?hle _; case hle => (first | omega | (simp; done) | (simp; omega)))); done))
      | (refine ⟨_, b3, A3, k3, c3, B3, l3, d3, rfl, ?_, dF.put _ _ _, h3.put n3 m3 ?_ _ _ _, ?_⟩ <;> first | omega | (simp; done) | (simp; omega) | ((repeat first | assumption | exact Below.refl _ _ | refine ext_alloc ?_ _ | refine ext_drew ?_ | (refine ext_set ?_ ?hle _; case hle => (first | omega | (simp; done) | (simp; omega)))); done))
  case rest =>
    clear b0 b1 b2
    obtain ⟨bm, bc, MA, mk, ml, MA', mk', ml', rfl, hbm, hM, vM, xM⟩ := hcut
    obtain ⟨W2, hW2⟩ : ∃ W2 : World, W2 = wc := ⟨_, rfl⟩
    subst hW2
    have HM := Lib.hid (fun (w' : World) (h : Ext W2 w') => hM.below h)
    have HVM := Lib.hid (fun (w' : World) (h : Ext W2 w') => vM.below h)
    obtain ⟨b0, b1, b2, _, _, _⟩ := HB.out _ xM
    obtain ⟨m0, m1, m2, gm0, gm1, gm2⟩ := hM
    have g0 : Ext W2 W2 := Below.refl _ _
    clear vM
    go_upto_region 7 with (go_at_call 51; (with_reducible refine (two_z (HI.out.below (by first | ((repeat first | assumption | exact Below.refl _ _ | refine ext_alloc ?_ _ | refine ext_drew ?_ | refine ext_set ?_ (by first | omega | (simp; done) | (simp; omega)) _); done) | fail)) HS.out H2.out).mono ?_); rintro _ s7 ⟨rfl, z7⟩; have f7 : Ext W2 s7 := Ext.trans (by first | ((repeat first | assumption | exact Below.refl _ _ | refine ext_alloc ?_ _ | refine ext_drew ?_ | refine ext_set ?_ (by first | omega | (simp; done) | (simp; omega)) _); done) | fail) z7; obtain ⟨b0, b1, b2, _, _, _⟩ := HB.out _ (xM.trans f7); obtain ⟨m0, m1, m2, gm0, gm1, gm2⟩ := HM.out _ f7)
    have HC7 := Lib.hid (fun (w' : World) (h : Ext W2 w') => (⟨(HB.out _ (xM.trans h)).2.1, (HM.out _ h).1, (HM.out _ h).2.1, (HM.out _ h).2.2.1⟩ : w'.cell? ⟨B, 1, none⟩ = some (.int .i64 zs.length) ∧ w'.cell? ⟨bm, 0, none⟩ = some (.bool bc) ∧ w'.cell? ⟨bm, 1, none⟩ = some (.slice MA mk ml) ∧ w'.cell? ⟨bm, 2, none⟩ = some (.slice MA' mk' ml')))
    have HCA7 := Lib.hid (fun (w' : World) (h : Ext W2 w') (x y z : Value) => (⟨(FBox.away (b' := w.heap.size) (HB.out _ (xM.trans h)) (by omega) x y z).2.1, (FBox.away (b' := w.heap.size) (HM.out _ h) (by omega) x y z).1, (FBox.away (b' := w.heap.size) (HM.out _ h) (by omega) x y z).2.1, (FBox.away (b' := w.heap.size) (HM.out _ h) (by omega) x y z).2.2.1⟩ : _ ∧ _ ∧ _ ∧ _))
    go_region_held3 (fun w' => w'.cell? ⟨B, 1, none⟩ = some (.int .i64 zs.length) ∧ w'.cell? ⟨bm, 0, none⟩ = some (.bool bc) ∧ w'.cell? ⟨bm, 1, none⟩ = some (.slice MA mk ml) ∧ w'.cell? ⟨bm, 2, none⟩ = some (.slice MA' mk' ml')) (first | exact HC7.out _ (by first | ((repeat first | assumption | exact Below.refl _ _ | refine ext_alloc ?_ _ | refine ext_drew ?_ | refine ext_set ?_ (by first | omega | (simp; done) | (simp; omega)) _); done) | fail) | exact HCA7.out _ f9 _ _ _)
      (first
        | (go_at_call 26; (with_reducible refine (fof_n HL.out (by omega)).mono ?_); rintro _ s8 ⟨b8, A8, k8, c8, B8, l8, d8, rfl, h8, z8, _⟩; have f8 : Ext W2 s8 := Ext.trans (by first | ((repeat first | assumption | exact Below.refl _ _ | refine ext_alloc ?_ _ | refine ext_drew ?_ | refine ext_set ?_ (by first | omega | (simp; done) | (simp; omega)) _); done) | fail) z8)
        | (go_at_call 52; (with_reducible refine (add_f (FracV.any h8 HFL.out (by omega)) (FracV.any (HVM.out _ (by first | ((repeat first | assumption | exact Below.refl _ _ | refine ext_alloc ?_ _ | refine ext_drew ?_ | refine ext_set ?_ (by first | omega | (simp; done) | (simp; omega)) _); done) | fail)) HFM.out (by omega)) HFL.out HFM.out (by omega)).mono ?_); rintro _ s9 ⟨b9, A9, k9, c9, B9, l9, d9, rfl, h9, z9, n9, m9⟩; have f9 : Ext W2 s9 := Ext.trans (by first | ((repeat first | assumption | exact Below.refl _ _ | refine ext_alloc ?_ _ | refine ext_drew ?_ | refine ext_set ?_ (by first | omega | (simp; done) | (simp; omega)) _); done) | fail) z9; obtain ⟨r0, r1, r2, g0, g1, g2⟩ := HF.out _ (x2.trans (xM.trans f9))))
    all_goals go_wp2
    all_goals
      obtain ⟨q0, q1, q2⟩ := set3 r0 r1 r2 (.bool b9) (.slice A9 k9 c9) (.slice B9 l9 d9)
      refine bodyPost_ret (v := .tuple #[.agg #[.bool b9, .slice A9 k9 c9, .slice B9 l9 d9], .int .i64 0]) (by simp [results, Tryd.results28, go_sem, q0, q1, q2]) rfl ?_
      exact GivesFE.box (HE.out.trans (x2.trans (xM.trans f9))) (by rw [HV.out]; exact h9) (n9.mono (by have := x2.size; have := xM.size; have := f8.size; omega)) (m9.mono (by have := x2.size; have := xM.size; have := f8.size; omega)) (Nat.le_refl _)
set_option maxHeartbeats 8000000 in
theorem echao_b {zs : List Int} {x : Value} {w : World} (hx : IntsV w x zs) (hs : Samp zs) (h2 : 0 < zs.count 2) :
    Calls Tryd.prog 28 #[x] w (GivesFE w (((zs.length : Int) : Rat) / ((1 : Int) : Rat) + chaoB (seen zs 1 : Int) (zs.count 2 : Int))) := by
  have HS := Lib.hid hs
  have hB9 : (1 : Int) ≤ zs.sum ∧ zs.sum ≤ 64 := by
    have := sumUp_le (Nat.le_refl _) hs.2.1
    rw [sumUp_all] at this
    have := hs.1
    exact ⟨by omega, hs.2.2⟩
  have hL9 := hs.1
  have hO9 : seen zs 1 ≤ 64 := Nat.le_trans List.count_le_length hL9.2
  obtain ⟨q, hq⟩ : ∃ q : Rat, q = (((zs.length : Int) : Rat) / ((1 : Int) : Rat) + chaoB (seen zs 1 : Int) (zs.count 2 : Int)) := ⟨_, rfl⟩
  rw [← hq]
  have HV := Lib.hid hq
  clear hq
  have hC9 : zs.count 2 ≤ 64 := Nat.le_trans List.count_le_length hL9.2
  have hp1 : 0 ≤ (seen zs 1 : Int) * (seen zs 1 : Int) := Int.mul_nonneg (by omega) (by omega)
  have hp2 : (seen zs 1 : Int) * (seen zs 1 : Int) ≤ 64 * 64 := Int.mul_le_mul (by omega) (by omega) (by omega) (by omega)
  have hp3 : (seen zs 1 : Int) * ((seen zs 1 : Int) - 1) = (seen zs 1 : Int) * (seen zs 1 : Int) - (seen zs 1 : Int) := by rw [Int.mul_sub, Int.mul_one]
  have hw1 : IntKind.i64.wrap ((seen zs 1 : Int) - 1) = (seen zs 1 : Int) - 1 := wrap_in (by omega)
  have hw2 : IntKind.i64.wrap ((seen zs 1 : Int) * ((seen zs 1 : Int) - 1)) = (seen zs 1 : Int) * ((seen zs 1 : Int) - 1) := wrap_in (by omega)
  have HQ := Lib.hid (show -9223372036854775808 ≤ (seen zs 1 : Int) * ((seen zs 1 : Int) - 1) ∧ (seen zs 1 : Int) * ((seen zs 1 : Int) - 1) ≤ 9223372036854775807 from by omega)
  have HL := Lib.hid (show -9223372036854775808 ≤ (zs.length : Int) ∧ (zs.length : Int) ≤ 9223372036854775807 from by omega)
  have HFL := Lib.hid (fb_i64 HL.out (show -9223372036854775808 ≤ (1 : Int) ∧ (1 : Int) ≤ 9223372036854775807 from by omega))
  have HFM := Lib.hid (show FB (chaoB (seen zs 1 : Int) (zs.count 2 : Int)) 3 from fb_i64 (by omega) (by omega))
  have hw3 : IntKind.i64.wrap ((seen zs 1 : Int) * (seen zs 1 : Int)) = (seen zs 1 : Int) * (seen zs 1 : Int) := wrap_in (by omega)
  have hw4 : IntKind.i64.wrap (2 * (zs.count 2 : Int)) = 2 * (zs.count 2 : Int) := wrap_in (by omega)
  have HR := Lib.hid (show (-9223372036854775808 ≤ (seen zs 1 : Int) * (seen zs 1 : Int) ∧ (seen zs 1 : Int) * (seen zs 1 : Int) ≤ 9223372036854775807) ∧ (-9223372036854775808 ≤ 2 * (zs.count 2 : Int) ∧ 2 * (zs.count 2 : Int) ≤ 9223372036854775807) from by omega)
  have h2' : (0 : Int) < zs.count 2 := by omega
  clear hp1 hp2 hp3
  go_enter Tryd.func28, Tryd.ntmps28
  go_upto_region 1 with (fail)
  have hF0 := FBox.new w (.bool false) (.slice none 0 0) (.slice none 0 0) 32
  have x0 : Ext w (w.alloc (.cells #[.bool false, .slice none 0 0, .slice none 0 0] 32)) := ext_alloc (Below.refl _ _) _
  have hs0 : w.heap.size + 1 ≤ (w.alloc (.cells #[.bool false, .slice none 0 0, .slice none 0 0] 32)).heap.size := by simp
  generalize w.alloc (.cells #[.bool false, .slice none 0 0, .slice none 0 0] 32) = W0 at *
  have HF := Lib.hid (fun (w' : World) (h : Ext W0 w') => hF0.below h)
  have HE := Lib.hid x0
  have f0 : Ext W0 W0 := Below.refl _ _
  obtain ⟨r0, r1, r2, g0, g1, g2⟩ := hF0
  clear x0
  have hX := hx.below HE.out
  clear hs hx
  go_upto_region 2 with (go_at_call 39; (with_reducible refine (read_ok hX HS.out).mono ?_); rintro e w1 ⟨A1, c1, rfl, h1, x1, n1⟩)
  have hB0 := FBox.new w1 (.int .i64 zs.sum) (.int .i64 zs.length) (.slice A1 (mostOf zs) c1) 52
  have x2 : Ext W0 (w1.alloc (.cells #[.int .i64 zs.sum, .int .i64 zs.length, .slice A1 (mostOf zs) c1] 52)) := ext_alloc x1 _
  have hI := h1.below (ext_alloc (Below.refl _ _) (.cells #[.int .i64 zs.sum, .int .i64 zs.length, .slice A1 (mostOf zs) c1] 52))
  have hlt1 : w1.heap.size < (w1.alloc (.cells #[.int .i64 zs.sum, .int .i64 zs.length, .slice A1 (mostOf zs) c1] 52)).heap.size := by simp
  generalize w1.alloc (.cells #[.int .i64 zs.sum, .int .i64 zs.length, .slice A1 (mostOf zs) c1] 52) = W1 at *
  have hb1 : w.heap.size + 1 ≤ w1.heap.size := Nat.le_trans hs0 x1.size
  generalize w1.heap.size = B at *
  have HI := Lib.hid hI
  have HB := Lib.hid (fun (w' : World) (h : Ext W1 w') => hB0.below h)
  have HC := Lib.hid (fun (w' : World) (h : Ext W1 w') => (⟨(hB0.below h).1, (hB0.below h).2.1, (hB0.below h).2.2.1⟩ : w'.cell? ⟨B, 0, none⟩ = some (.int .i64 zs.sum) ∧ w'.cell? ⟨B, 1, none⟩ = some (.int .i64 zs.length) ∧ w'.cell? ⟨B, 2, none⟩ = some (.slice A1 (mostOf zs) c1)))
  have HCA := Lib.hid (fun (w' : World) (h : Ext W1 w') (x y z : Value) => (fun (k : FBox _ _ _ _ _) => (⟨k.1, k.2.1, k.2.2.1⟩ : _ ∧ _ ∧ _)) (FBox.away (b' := w.heap.size) (HB.out _ h) (by omega) x y z))
  have HCB := Lib.hid (fun (w' : World) (b' : Nat) (h : Ext W1 w') (hne : b' ≠ B) (x y z : Value) => (fun (k : FBox _ _ _ _ _) => (⟨k.1, k.2.1, k.2.2.1⟩ : _ ∧ _ ∧ _)) (FBox.away (b' := b') (HB.out _ h) hne x y z))
  clear h1 hX hI n1
  obtain ⟨b0, b1, b2, _, _, _⟩ := hB0
  have f0 : Ext W1 W1 := Below.refl _ _
  go_upto_region 4 with (fail)
  go_cut [6] (fun mv wx => FBoxAt W1 wx mv (chaoA (seen zs 1 : Int)))
  case first =>
    go_region_held3 (fun w' => w'.cell? ⟨B, 0, none⟩ = some (.int .i64 zs.sum) ∧ w'.cell? ⟨B, 1, none⟩ = some (.int .i64 zs.length) ∧ w'.cell? ⟨B, 2, none⟩ = some (.slice A1 (mostOf zs) c1)) (exact HC.out _ (by first | ((repeat first | assumption | exact Below.refl _ _ | refine ext_alloc ?_ _ | refine ext_drew ?_ | refine ext_set ?_ (by first | omega | (simp; done) | (simp; omega)) _); done) | fail))
      (first
        | (go_at_call 45; (with_reducible refine (one_ok (HI.out.below (by first | ((repeat first | assumption | exact Below.refl _ _ | refine ext_alloc ?_ _ | refine ext_drew ?_ | refine ext_set ?_ (by first | omega | (simp; done) | (simp; omega)) _); done) | fail)) HS.out).mono ?_); rintro _ s1 ⟨rfl, z1⟩; have f1 : Ext W1 s1 := Ext.trans (by first | ((repeat first | assumption | exact Below.refl _ _ | refine ext_alloc ?_ _ | refine ext_drew ?_ | refine ext_set ?_ (by first | omega | (simp; done) | (simp; omega)) _); done) | fail) z1; have y1 : W1.heap.size ≤ s1.heap.size := f1.size; (try (have dF := FBox.below dF z1)); (try (have dF := FBox.below (FBox.below dF (ext_drew (Below.refl _ _))) z1)); (try (have dF := FBox.below (FBox.new _ (.bool false) (.slice none 0 0) (.slice none 0 0) _) z1)); (try (have dF := FBox.below (FBox.below (FBox.new _ (.bool false) (.slice none 0 0) (.slice none 0 0) _) (ext_drew (Below.refl _ _))) z1)); (try (have dG := dF; obtain ⟨e0, e1, e2, g0, g1, g2⟩ := dG)); (try (have y1b := FBox.lt dF)))
        | (go_at_call 26; (with_reducible refine (fof_n HQ.out (by omega)).mono ?_); rintro _ s3 ⟨b3, A3, k3, c3, B3, l3, d3, rfl, h3, z3, n3, m3⟩; have f3 : Ext W1 s3 := Ext.trans (by first | ((repeat first | assumption | exact Below.refl _ _ | refine ext_alloc ?_ _ | refine ext_drew ?_ | refine ext_set ?_ (by first | omega | (simp; done) | (simp; omega)) _); done) | fail) z3; have y3 : W1.heap.size ≤ s3.heap.size := f3.size; (try (have dF := FBox.below dF z3)); (try (have dF := FBox.below (FBox.below dF (ext_drew (Below.refl _ _))) z3)); (try (have dF := FBox.below (FBox.new _ (.bool false) (.slice none 0 0) (.slice none 0 0) _) z3)); (try (have dF := FBox.below (FBox.below (FBox.new _ (.bool false) (.slice none 0 0) (.slice none 0 0) _) (ext_drew (Below.refl _ _))) z3)); (try (have dG := dF; obtain ⟨e0, e1, e2, g0, g1, g2⟩ := dG))))
    all_goals go_wp2
    all_goals go_meet
    all_goals first
      | (refine ⟨_, b3, A3, k3, c3, B3, l3, d3, rfl, ?_, FBox.new _ _ _ _ _, h3.below (ext_alloc (Below.refl _ _) _), ?_⟩ <;> first | omega | ((repeat first | assumption | exact Below.refl _ _ | refine ext_alloc ?_ _ | refine ext_drew ?_ | (refine ext_set ?_ ?hle _; case hle => (first | omega | (simp; done) | (simp; omega)))); done))
      | (refine ⟨_, b3, A3, k3, c3, B3, l3, d3, rfl, ?_, dF.put _ _ _, h3.put n3 m3 ?_ _ _ _, ?_⟩ <;> first | omega | (simp; done) | (simp; omega) | ((repeat first | assumption | exact Below.refl _ _ | refine ext_alloc ?_ _ | refine ext_drew ?_ | (refine ext_set ?_ ?hle _; case hle => (first | omega | (simp; done) | (simp; omega)))); done))
  case rest =>
    clear b0 b1 b2
    obtain ⟨bm, bc, MA, mk, ml, MA', mk', ml', rfl, hbm, hM, vM, xM⟩ := hcut
    obtain ⟨W2, hW2⟩ : ∃ W2 : World, W2 = wc := ⟨_, rfl⟩
    subst hW2
    have HM := Lib.hid (fun (w' : World) (h : Ext W2 w') => hM.below h)
    have HVM := Lib.hid (fun (w' : World) (h : Ext W2 w') => vM.below h)
    obtain ⟨b0, b1, b2, _, _, _⟩ := HB.out _ xM
    obtain ⟨m0, m1, m2, gm0, gm1, gm2⟩ := hM
    have g0 : Ext W2 W2 := Below.refl _ _
    clear vM
    go_upto_region 6 with (go_at_call 51; (with_reducible refine (two_ok (HI.out.below (by first | ((repeat first | assumption | exact Below.refl _ _ | refine ext_alloc ?_ _ | refine ext_drew ?_ | refine ext_set ?_ (by first | omega | (simp; done) | (simp; omega)) _); done) | fail)) HS.out).mono ?_); rintro _ s7 ⟨rfl, z7⟩; have f7 : Ext W2 s7 := Ext.trans (by first | ((repeat first | assumption | exact Below.refl _ _ | refine ext_alloc ?_ _ | refine ext_drew ?_ | refine ext_set ?_ (by first | omega | (simp; done) | (simp; omega)) _); done) | fail) z7; obtain ⟨b0, b1, b2, _, _, _⟩ := HB.out _ (xM.trans f7); obtain ⟨m0, m1, m2, gm0, gm1, gm2⟩ := HM.out _ f7)
    go_cut [6] (fun mv wx => FBoxAt W1 wx mv (chaoB (seen zs 1 : Int) (zs.count 2 : Int)))
    case first =>
      have xN := xM
      go_region_held3 (fun w' => w'.cell? ⟨B, 0, none⟩ = some (.int .i64 zs.sum) ∧ w'.cell? ⟨B, 1, none⟩ = some (.int .i64 zs.length) ∧ w'.cell? ⟨B, 2, none⟩ = some (.slice A1 (mostOf zs) c1)) (first | exact HC.out _ (xM.trans (by first | ((repeat first | assumption | exact Below.refl _ _ | refine ext_alloc ?_ _ | refine ext_drew ?_ | refine ext_set ?_ (by first | omega | (simp; done) | (simp; omega)) _); done) | fail)) | exact HC.out _ (by first | ((repeat first | assumption | exact Below.refl _ _ | refine ext_alloc ?_ _ | refine ext_drew ?_ | refine ext_set ?_ (by first | omega | (simp; done) | (simp; omega)) _); done) | fail))
        (first
          | (go_at_call 45; (with_reducible refine (one_ok (HI.out.below (xM.trans (by first | ((repeat first | assumption | exact Below.refl _ _ | refine ext_alloc ?_ _ | refine ext_drew ?_ | refine ext_set ?_ (by first | omega | (simp; done) | (simp; omega)) _); done) | fail))) HS.out).mono ?_); rintro _ s4 ⟨rfl, z4⟩; have f4 : Ext W2 s4 := Ext.trans (by first | ((repeat first | assumption | exact Below.refl _ _ | refine ext_alloc ?_ _ | refine ext_drew ?_ | refine ext_set ?_ (by first | omega | (simp; done) | (simp; omega)) _); done) | fail) z4)
          | (go_at_call 51; (with_reducible refine (two_ok (HI.out.below (xM.trans (by first | ((repeat first | assumption | exact Below.refl _ _ | refine ext_alloc ?_ _ | refine ext_drew ?_ | refine ext_set ?_ (by first | omega | (simp; done) | (simp; omega)) _); done) | fail))) HS.out).mono ?_); rintro _ s5 ⟨rfl, z5⟩; have f5 : Ext W2 s5 := Ext.trans (by first | ((repeat first | assumption | exact Below.refl _ _ | refine ext_alloc ?_ _ | refine ext_drew ?_ | refine ext_set ?_ (by first | omega | (simp; done) | (simp; omega)) _); done) | fail) z5)
          | (go_at_call 26; (with_reducible refine (fof_n HR.out.1 HR.out.2).mono ?_); rintro _ s6 ⟨b6, A6, k6, c6, B6, l6, d6, rfl, h6, z6, n6, m6⟩; have f6 : Ext W2 s6 := Ext.trans (by first | ((repeat first | assumption | exact Below.refl _ _ | refine ext_alloc ?_ _ | refine ext_drew ?_ | refine ext_set ?_ (by first | omega | (simp; done) | (simp; omega)) _); done) | fail) z6; have f6' : Ext W1 s6 := xM.trans f6; obtain ⟨m0, m1, m2, gm0, gm1, gm2⟩ := HM.out _ f6))
      all_goals go_wp2
      all_goals go_meet
      all_goals exact ⟨_, b6, A6, k6, c6, B6, l6, d6, rfl, hbm, (HM.out _ f6).put _ _ _, h6.put n6 m6 (by have := f4.size; have := f5.size; have := (HM.out _ g0).lt; omega) _ _ _, (by first | ((repeat first | assumption | exact Below.refl _ _ | refine ext_alloc ?_ _ | refine ext_drew ?_ | refine ext_set ?_ (by first | omega | (simp; done) | (simp; omega)) _); done) | fail)⟩
    case rest =>
      clear m0 m1 m2 gm0 gm1 gm2 HM HVM xM hbm
      clear b0 b1 b2
      obtain ⟨bm, bc, MA, mk, ml, MA', mk', ml', rfl, hbm, hM, vM, xM⟩ := hcut
      obtain ⟨W3, hW3⟩ : ∃ W3 : World, W3 = wc := ⟨_, rfl⟩
      subst hW3
      have HM := Lib.hid (fun (w' : World) (h : Ext W3 w') => hM.below h)
      have HVM := Lib.hid (fun (w' : World) (h : Ext W3 w') => vM.below h)
      obtain ⟨b0, b1, b2, _, _, _⟩ := HB.out _ xM
      obtain ⟨m0, m1, m2, gm0, gm1, gm2⟩ := hM
      have g0 : Ext W3 W3 := Below.refl _ _
      clear vM
      go_upto_region 7 with (fail)
      have HC7 := Lib.hid (fun (w' : World) (h : Ext W3 w') => (⟨(HB.out _ (xM.trans h)).2.1, (HM.out _ h).1, (HM.out _ h).2.1, (HM.out _ h).2.2.1⟩ : w'.cell? ⟨B, 1, none⟩ = some (.int .i64 zs.length) ∧ w'.cell? ⟨bm, 0, none⟩ = some (.bool bc) ∧ w'.cell? ⟨bm, 1, none⟩ = some (.slice MA mk ml) ∧ w'.cell? ⟨bm, 2, none⟩ = some (.slice MA' mk' ml')))
      have HCA7 := Lib.hid (fun (w' : World) (h : Ext W3 w') (x y z : Value) => (⟨(FBox.away (b' := w.heap.size) (HB.out _ (xM.trans h)) (by omega) x y z).2.1, (FBox.away (b' := w.heap.size) (HM.out _ h) (by omega) x y z).1, (FBox.away (b' := w.heap.size) (HM.out _ h) (by omega) x y z).2.1, (FBox.away (b' := w.heap.size) (HM.out _ h) (by omega) x y z).2.2.1⟩ : _ ∧ _ ∧ _ ∧ _))
      go_region_held3 (fun w' => w'.cell? ⟨B, 1, none⟩ = some (.int .i64 zs.length) ∧ w'.cell? ⟨bm, 0, none⟩ = some (.bool bc) ∧ w'.cell? ⟨bm, 1, none⟩ = some (.slice MA mk ml) ∧ w'.cell? ⟨bm, 2, none⟩ = some (.slice MA' mk' ml')) (first | exact HC7.out _ (by first | ((repeat first | assumption | exact Below.refl _ _ | refine ext_alloc ?_ _ | refine ext_drew ?_ | refine ext_set ?_ (by first | omega | (simp; done) | (simp; omega)) _); done) | fail) | exact HCA7.out _ f9 _ _ _)
        (first
          | (go_at_call 26; (with_reducible refine (fof_n HL.out (by omega)).mono ?_); rintro _ s8 ⟨b8, A8, k8, c8, B8, l8, d8, rfl, h8, z8, _⟩; have f8 : Ext W3 s8 := Ext.trans (by first | ((repeat first | assumption | exact Below.refl _ _ | refine ext_alloc ?_ _ | refine ext_drew ?_ | refine ext_set ?_ (by first | omega | (simp; done) | (simp; omega)) _); done) | fail) z8)
          | (go_at_call 52; (with_reducible refine (add_f (FracV.any h8 HFL.out (by omega)) (FracV.any (HVM.out _ (by first | ((repeat first | assumption | exact Below.refl _ _ | refine ext_alloc ?_ _ | refine ext_drew ?_ | refine ext_set ?_ (by first | omega | (simp; done) | (simp; omega)) _); done) | fail)) HFM.out (by omega)) HFL.out HFM.out (by omega)).mono ?_); rintro _ s9 ⟨b9, A9, k9, c9, B9, l9, d9, rfl, h9, z9, n9, m9⟩; have f9 : Ext W3 s9 := Ext.trans (by first | ((repeat first | assumption | exact Below.refl _ _ | refine ext_alloc ?_ _ | refine ext_drew ?_ | refine ext_set ?_ (by first | omega | (simp; done) | (simp; omega)) _); done) | fail) z9; obtain ⟨r0, r1, r2, g0, g1, g2⟩ := HF.out _ (x2.trans (xM.trans f9))))
      all_goals go_wp2
      all_goals
        obtain ⟨q0, q1, q2⟩ := set3 r0 r1 r2 (.bool b9) (.slice A9 k9 c9) (.slice B9 l9 d9)
        refine bodyPost_ret (v := .tuple #[.agg #[.bool b9, .slice A9 k9 c9, .slice B9 l9 d9], .int .i64 0]) (by simp [results, Tryd.results28, go_sem, q0, q1, q2]) rfl ?_
        exact GivesFE.box (HE.out.trans (x2.trans (xM.trans f9))) (by rw [HV.out]; exact h9) (n9.mono (by have := x2.size; have := xM.size; have := f8.size; omega)) (m9.mono (by have := x2.size; have := xM.size; have := f8.size; omega)) (Nat.le_refl _)

end Go.Proofs.YtkjcbfaimonaoaaDoor
