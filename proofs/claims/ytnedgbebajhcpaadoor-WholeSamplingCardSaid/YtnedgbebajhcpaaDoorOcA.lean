/- occupancy: check, chance, Chance. -/
import Derived.Test.YtnedgbebajhcpaaDoorCntP
import Derived.Test.YtnedgbebajhcpaaDoorFres
import Derived.Test.YtnedgbebajhcpaaDoorOccQ
set_option linter.unusedVariables false
set_option linter.unusedSimpArgs false
set_option maxRecDepth 100000
namespace Go.Proofs.YtnedgbebajhcpaaDoor
open Go.RowKit Num

theorem cell_put {w : World} {b c : Nat} {v : Value} (h : w.cell? ⟨c, 0, none⟩ = some v) (hne : b ≠ c) (x y z : Value) : (((w.setCell ⟨b, 0, none⟩ x).setCell ⟨b, 1, none⟩ y).setCell ⟨b, 2, none⟩ z).cell? ⟨c, 0, none⟩ = some v := by
  have ne : ∀ i : Nat, (⟨b, i, none⟩ : Addr) ≠ ⟨c, 0, none⟩ := fun i e => by injection e with e1; exact hne e1
  rw [World.cell?_setCell_other _ _ _ _ (ne 2), World.cell?_setCell_other _ _ _ _ (ne 1), World.cell?_setCell_other _ _ _ _ (ne 0)]
  exact h
/-- The numbers are within their limits. -/
def OccIn (n D : Int) : Prop := (0 ≤ n ∧ n ≤ 30) ∧ (1 ≤ D ∧ D ≤ 60)
theorem ocheck_ok {n D : Int} {w : World} (h1 : 0 ≤ n ∧ n ≤ 30) (h2 : 1 ≤ D ∧ D ≤ 60) : Calls Tryd.prog 33 #[.int .i64 n, .int .i64 D] w (fun e w' => e = .returned (.int .i64 0) ∧ w' = w) := by
  obtain ⟨h11, h12⟩ := h1
  obtain ⟨h21, h22⟩ := h2
  go_enter Tryd.func33, Tryd.ntmps33
  go_wp2
  go_ret
  exact ⟨rfl, rfl⟩
theorem ocheck_no {n D : Int} {w : World} (h : ¬ OccIn n D) : Calls Tryd.prog 33 #[.int .i64 n, .int .i64 D] w (fun e w' => e = .returned (.int .i64 2) ∧ w' = w) := by
  have h' : n < 0 ∨ (0 ≤ n ∧ 30 < n) ∨ ((0 ≤ n ∧ n ≤ 30) ∧ D < 1) ∨ ((0 ≤ n ∧ n ≤ 30) ∧ 1 ≤ D ∧ 60 < D) := by unfold OccIn at h; omega
  rcases h' with k | ⟨k1, k2⟩ | ⟨⟨k1, k2⟩, k3⟩ | ⟨⟨k1, k2⟩, k3, k4⟩
  all_goals
    go_enter Tryd.func33, Tryd.ntmps33
    go_wp2
    go_ret
    exact ⟨rfl, rfl⟩

theorem pch_frac {n D d : Nat} : frac false (chs D d * (stir n d * fact d)) (D ^ n) = pch n D d := by rw [occ_sets, frac_false]; rfl
theorem chs_small {D d : Nat} (hD : D ≤ 60) : (limbsOf (chs D d)).length ≤ 61 := Nat.le_trans (chs_len D d) (by omega)
theorem onto_small {n d : Nat} (hn : n ≤ 30) (hd : d ≤ 30) : (limbsOf (stir n d * fact d)).length ≤ 62 := by
  have h1 := stir_len (n := n) (k := d) (by omega)
  have h2 := fact_len d (by omega)
  have h3 := limbsOf_length_mul (stir n d) (fact d)
  omega
theorem all_small {n D : Nat} (hn : n ≤ 30) (hD : D ≤ 60) : (limbsOf (D ^ n)).length ≤ 31 := Nat.le_trans (len_of_le_pow (Nat.le_refl _) (by omega)) (by omega)

set_option maxHeartbeats 4000000 in
theorem chance_in {n D d : Nat} {w : World} (hn : n ≤ 30) (hD1 : 1 ≤ D) (hD : D ≤ 60) (hdn : d ≤ n) (hdD : d ≤ D) :
    Calls Tryd.prog 53 #[.int .i64 n, .int .i64 D, .int .i64 d] w (GivesF w (pch n D d)) := by
  have HL1 := Lib.hid (chs_small (d := d) hD)
  have HL2 := Lib.hid (onto_small (d := d) hn (by omega))
  have HL3 := Lib.hid (all_small hn hD)
  have HQ := Lib.hid (limbsOf_length_mul (chs D d) (stir n d * fact d))
  have HP := Lib.hid (pch_frac (n := n) (D := D) (d := d))
  have hb1 : ¬ (d : Int) < 0 := by omega
  have hb2 : ¬ n < d := by omega
  have hb3 : ¬ D < d := by omega
  have hb2' : ¬ (n : Int) < d := by omega
  have hb3' : ¬ (D : Int) < d := by omega
  have hw1 : IntKind.u64.wrap (D : Int) = (D : Int) := by rw [IntKind.wrap_u64]; omega
  have HB := Lib.hid (fun w => cbin_ok (n := (D : Int)) (k := (d : Int)) (w := w) (by omega) (by omega))
  have hbin : binI ((D : Int)).toNat (d : Int) = chs D d := by rw [Int.toNat_natCast, binI_nat]
  rw [hbin] at HB
  clear hbin
  go_enter Tryd.func53, Tryd.ntmps53
  go_upto_region 1 with (fail)
  have hF0 := FBox.new w (.bool false) (.slice none 0 0) (.slice none 0 0) 28
  have x0 : Ext w (w.alloc (.cells #[.bool false, .slice none 0 0, .slice none 0 0] 28)) := ext_alloc (Below.refl _ _) _
  have hs0 : w.heap.size + 1 ≤ (w.alloc (.cells #[.bool false, .slice none 0 0, .slice none 0 0] 28)).heap.size := by simp
  generalize w.alloc (.cells #[.bool false, .slice none 0 0, .slice none 0 0] 28) = W0 at *
  have HF := Lib.hid (fun (w' : World) (h : Ext W0 w') => hF0.below h)
  have HE := Lib.hid x0
  have f0 : Ext W0 W0 := Below.refl _ _
  obtain ⟨r0, r1, r2, g0, g1, g2⟩ := hF0
  clear x0
  go_wp2_with fail
  refine (HB.out _).mono ?_
  rintro e w1 ⟨A1, k1, c1, rfl, h1, y1, n1⟩
  clear n1
  go_upto_region 4 with (fail)
  have hB1 : (w1.alloc (.cells #[.slice A1 k1 c1] 26)).cell? ⟨w1.heap.size, 0, none⟩ = some (.slice A1 k1 c1) := by simp [go_sem]
  have Y1 : Ext W0 (w1.alloc (.cells #[.slice A1 k1 c1] 26)) := ext_alloc y1 _
  have h1 := h1.below (ext_alloc (Below.refl _ _) (.cells #[.slice A1 k1 c1] 26))
  have hsz1 : w1.heap.size < (w1.alloc (.cells #[.slice A1 k1 c1] 26)).heap.size := by simp
  have hlo1 : W0.heap.size ≤ w1.heap.size := y1.size
  generalize w1.alloc (.cells #[.slice A1 k1 c1] 26) = W1 at *
  generalize w1.heap.size = B1 at *
  have HB1 := Lib.hid (fun (w' : World) (h : Ext W1 w') => ((h.cell (p := ⟨B1, 0, none⟩) (World.block_lt_of_cell? _ _ hB1)).trans hB1 : w'.cell? ⟨B1, 0, none⟩ = some (.slice A1 k1 c1)))
  clear hB1 y1
  go_wp2_with fail
  refine (csj_in (n := n) (k := d) (by omega) (by omega)).mono ?_
  rintro e w2 ⟨A2, k2, c2, rfl, h2, y2, n2⟩
  have h1 := h1.below y2
  clear n2
  go_upto_region 5 with (fail)
  have hB2 : (w2.alloc (.cells #[.slice A2 k2 c2] 26)).cell? ⟨w2.heap.size, 0, none⟩ = some (.slice A2 k2 c2) := by simp [go_sem]
  have Y2 : Ext W1 (w2.alloc (.cells #[.slice A2 k2 c2] 26)) := ext_alloc y2 _
  have h1 := h1.below (ext_alloc (Below.refl _ _) (.cells #[.slice A2 k2 c2] 26))
  have h2 := h2.below (ext_alloc (Below.refl _ _) (.cells #[.slice A2 k2 c2] 26))
  have hsz2 : w2.heap.size < (w2.alloc (.cells #[.slice A2 k2 c2] 26)).heap.size := by simp
  have hlo2 : W1.heap.size ≤ w2.heap.size := y2.size
  generalize w2.alloc (.cells #[.slice A2 k2 c2] 26) = W2 at *
  generalize w2.heap.size = B2 at *
  have HB2 := Lib.hid (fun (w' : World) (h : Ext W2 w') => ((h.cell (p := ⟨B2, 0, none⟩) (World.block_lt_of_cell? _ _ hB2)).trans hB2 : w'.cell? ⟨B2, 0, none⟩ = some (.slice A2 k2 c2)))
  clear hB2 y2
  go_wp2_with fail
  refine (nof_e (m := D) (by omega) (by omega)).mono ?_
  rintro e w3 ⟨A3, k3, c3, rfl, h3, y3, n3⟩
  have h1 := h1.below y3
  have h2 := h2.below y3
  have hN3 := h3.nat (fit_small (by omega))
  clear n3
  go_wp2_with fail
  refine (pow_n (N := n) hN3 (by omega) (by omega) (fun w' h => digits_small h (by omega))).mono ?_
  rintro e w4 ⟨A4, k4, c4, rfl, h4, y4, n4⟩
  have h1 := h1.below y4
  have h2 := h2.below y4
  clear n4 hN3 h3
  go_upto_region 6 with (fail)
  have hB4 : (w4.alloc (.cells #[.slice A4 k4 c4] 26)).cell? ⟨w4.heap.size, 0, none⟩ = some (.slice A4 k4 c4) := by simp [go_sem]
  have Y4 : Ext w3 (w4.alloc (.cells #[.slice A4 k4 c4] 26)) := ext_alloc y4 _
  have h1 := h1.below (ext_alloc (Below.refl _ _) (.cells #[.slice A4 k4 c4] 26))
  have h2 := h2.below (ext_alloc (Below.refl _ _) (.cells #[.slice A4 k4 c4] 26))
  have h4 := h4.below (ext_alloc (Below.refl _ _) (.cells #[.slice A4 k4 c4] 26))
  have hsz4 : w4.heap.size < (w4.alloc (.cells #[.slice A4 k4 c4] 26)).heap.size := by simp
  have hlo4 : w3.heap.size ≤ w4.heap.size := y4.size
  generalize w4.alloc (.cells #[.slice A4 k4 c4] 26) = W4 at *
  generalize w4.heap.size = B4 at *
  have HB4 := Lib.hid (fun (w' : World) (h : Ext W4 w') => ((h.cell (p := ⟨B4, 0, none⟩) (World.block_lt_of_cell? _ _ hB4)).trans hB4 : w'.cell? ⟨B4, 0, none⟩ = some (.slice A4 k4 c4)))
  clear hB4 y4
  have Z4 : Ext W2 W4 := y3.trans Y4
  have hz1 : w.heap.size ≠ B1 := by omega
  have hz2 : w.heap.size ≠ B2 := by have := Y1.size; omega
  have hz4 : w.heap.size ≠ B4 := by have := Y1.size; have := Y2.size; have := y3.size; omega
  have HC := Lib.hid (fun (w' : World) (h : Ext W4 w') => (⟨HB1.out _ (Y2.trans (Z4.trans h)), HB2.out _ (Z4.trans h), HB4.out _ h⟩ : w'.cell? ⟨B1, 0, none⟩ = some (.slice A1 k1 c1) ∧ w'.cell? ⟨B2, 0, none⟩ = some (.slice A2 k2 c2) ∧ w'.cell? ⟨B4, 0, none⟩ = some (.slice A4 k4 c4)))
  have HCA := Lib.hid (fun (w' : World) (h : Ext W4 w') (x y z : Value) => (⟨cell_put (HC.out _ h).1 hz1 x y z, cell_put (HC.out _ h).2.1 hz2 x y z, cell_put (HC.out _ h).2.2 hz4 x y z⟩ : _ ∧ _ ∧ _))
  have HN := Lib.hid (fun (w' : World) (h : Ext W4 w') => (⟨(h1.nat (by have := HL1.out; unfold Fit; omega)).below h, (h2.nat (by have := HL2.out; unfold Fit; omega)).below h, (h4.nat (by have := HL3.out; unfold Fit; omega)).below h⟩ : NatV w' (.slice A1 k1 c1) (chs D d) ∧ NatV w' (.slice A2 k2 c2) (stir n d * fact d) ∧ NatV w' (.slice A4 k4 c4) (D ^ n)))
  have f0 : Ext W4 W4 := Below.refl _ _
  clear h1 h2 h4
  go_region_held3 (fun w' => w'.cell? ⟨B1, 0, none⟩ = some (.slice A1 k1 c1) ∧ w'.cell? ⟨B2, 0, none⟩ = some (.slice A2 k2 c2) ∧ w'.cell? ⟨B4, 0, none⟩ = some (.slice A4 k4 c4)) (first | exact HC.out _ (by first | ((repeat first | assumption | exact Below.refl _ _ | refine ext_alloc ?_ _ | refine ext_drew ?_ | refine ext_set ?_ (by first | omega | (simp; done) | (simp; omega)) _); done) | fail) | exact HCA.out _ f6 _ _ _)
    (first
      | (go_at_call 39; (with_reducible refine (mul_n (HN.out _ (by first | ((repeat first | assumption | exact Below.refl _ _ | refine ext_alloc ?_ _ | refine ext_drew ?_ | refine ext_set ?_ (by first | omega | (simp; done) | (simp; omega)) _); done) | fail)).1 (HN.out _ (by first | ((repeat first | assumption | exact Below.refl _ _ | refine ext_alloc ?_ _ | refine ext_drew ?_ | refine ext_set ?_ (by first | omega | (simp; done) | (simp; omega)) _); done) | fail)).2.1 (by have := HL1.out; have := HL2.out; omega)).mono ?_); rintro _ s5 ⟨A5, k5, c5, rfl, h5, z5, _⟩; have f5 : Ext W4 s5 := Ext.trans (by first | ((repeat first | assumption | exact Below.refl _ _ | refine ext_alloc ?_ _ | refine ext_drew ?_ | refine ext_set ?_ (by first | omega | (simp; done) | (simp; omega)) _); done) | fail) z5)
      | (go_at_call 50; (with_reducible refine (norm_f (L := 200) (AnyF.mk (b := false) (NatV.below (CanV.nat h5 (by have := HQ.out; have := HL1.out; have := HL2.out; unfold Fit; omega)) (by first | ((repeat first | assumption | exact Below.refl _ _ | refine ext_alloc ?_ _ | refine ext_drew ?_ | refine ext_set ?_ (by first | omega | (simp; done) | (simp; omega)) _); done) | fail)) (HN.out _ (by first | ((repeat first | assumption | exact Below.refl _ _ | refine ext_alloc ?_ _ | refine ext_drew ?_ | refine ext_set ?_ (by first | omega | (simp; done) | (simp; omega)) _); done) | fail)).2.2 (by have := HQ.out; have := HL1.out; have := HL2.out; omega) (by have := HL3.out; omega)) (by omega)).mono ?_); rintro _ s6 ⟨b6, A6, k6, c6, B6, l6, d6, rfl, h6, z6, n6, m6⟩; have f6 : Ext W4 s6 := Ext.trans (by first | ((repeat first | assumption | exact Below.refl _ _ | refine ext_alloc ?_ _ | refine ext_drew ?_ | refine ext_set ?_ (by first | omega | (simp; done) | (simp; omega)) _); done) | fail) z6; obtain ⟨r0, r1, r2, g0, g1, g2⟩ := HF.out _ (Y1.trans (Y2.trans (Z4.trans f6)))))
  all_goals go_wp2
  all_goals
    obtain ⟨q0, q1, q2⟩ := set3 r0 r1 r2 (.bool b6) (.slice A6 k6 c6) (.slice B6 l6 d6)
    refine bodyPost_ret (v := .agg #[.bool b6, .slice A6 k6 c6, .slice B6 l6 d6]) (by simp [results, Tryd.results53, go_sem, q0, q1, q2]) rfl ?_
    exact GivesF.box (B := w.heap.size) (HE.out.trans (Y1.trans (Y2.trans (Z4.trans f6)))) (by rw [← HP.out]; exact h6) (n6.mono (by have := Y1.size; have := Y2.size; have := Z4.size; have := f5.size; omega)) (m6.mono (by have := Y1.size; have := Y2.size; have := Z4.size; have := f5.size; omega)) (by omega)

set_option maxHeartbeats 2000000 in
theorem chance_out {n D d : Int} {w : World} (h : d < 0 ∨ n < d ∨ D < d) : Calls Tryd.prog 53 #[.int .i64 n, .int .i64 D, .int .i64 d] w (GivesF w 0) := by
  have h' : d < 0 ∨ (¬ d < 0 ∧ n < d) ∨ (¬ d < 0 ∧ ¬ n < d ∧ D < d) := by omega
  have hz : ((0 : Int) : Rat) / ((1 : Int) : Rat) = 0 := by simp only [Rat.intCast_zero, Rat.div_def, Rat.zero_mul]
  have HZ := Lib.hid hz
  clear h hz
  rcases h' with k1 | ⟨k1, k2⟩ | ⟨k1, k2, k3⟩
  all_goals
    go_enter Tryd.func53, Tryd.ntmps53
    go_upto_region 1 with (fail)
    have hF0 := FBox.new w (.bool false) (.slice none 0 0) (.slice none 0 0) 28
    have x0 : Ext w (w.alloc (.cells #[.bool false, .slice none 0 0, .slice none 0 0] 28)) := ext_alloc (Below.refl _ _) _
    have hs0 : w.heap.size + 1 ≤ (w.alloc (.cells #[.bool false, .slice none 0 0, .slice none 0 0] 28)).heap.size := by simp
    generalize w.alloc (.cells #[.bool false, .slice none 0 0, .slice none 0 0] 28) = W0 at *
    have HF := Lib.hid (fun (w' : World) (h : Ext W0 w') => hF0.below h)
    clear hF0
    go_wp2_with (go_at_call 13; (with_reducible refine (fof_n (n := 0) (d := 1) (by omega) (by omega)).mono ?_); rintro e s3 ⟨b3, A3, k3, c3, B3, l3, d3, rfl, h3, z3, n3, m3⟩; obtain ⟨r0, r1, r2, g0, g1, g2⟩ := HF.out _ z3)
    obtain ⟨q0, q1, q2⟩ := set3 r0 r1 r2 (.bool b3) (.slice A3 k3 c3) (.slice B3 l3 d3)
    refine bodyPost_ret (v := .agg #[.bool b3, .slice A3 k3 c3, .slice B3 l3 d3]) (by simp [results, Tryd.results53, go_sem, q0, q1, q2]) rfl ?_
    exact GivesF.box (B := w.heap.size) (x0.trans z3) (by rw [← HZ.out]; exact h3) (n3.mono (by omega)) (m3.mono (by omega)) (by omega)

/-- The chance of any number of dies. -/
def pchI (n D : Nat) (d : Int) : Rat := if d < 0 then 0 else pch n D d.toNat
theorem chance_any {n D : Nat} {d : Int} {w : World} (hn : n ≤ 30) (hD1 : 1 ≤ D) (hD : D ≤ 60) :
    Calls Tryd.prog 53 #[.int .i64 n, .int .i64 D, .int .i64 d] w (GivesF w (pchI n D d)) := by
  unfold pchI
  by_cases h : d < 0
  · rw [if_pos h]; exact chance_out (.inl h)
  · rw [if_neg h]
    obtain ⟨k, rfl⟩ : ∃ k : Nat, d = k := ⟨d.toNat, by omega⟩
    rw [Int.toNat_natCast]
    by_cases h1 : k ≤ n ∧ k ≤ D
    · exact chance_in hn hD1 hD h1.1 h1.2
    · rw [pch_gt (by omega)]; exact chance_out (by omega)

set_option maxHeartbeats 2000000 in
theorem ochance_ok {n D : Nat} {d : Int} {w : World} (hn : n ≤ 30) (hD1 : 1 ≤ D) (hD : D ≤ 60) :
    Calls Tryd.prog 28 #[.int .i64 n, .int .i64 D, .int .i64 d] w (GivesFE w (pchI n D d)) := by
  go_enter Tryd.func28, Tryd.ntmps28
  go_upto_region 1 with (fail)
  have hF0 := FBox.new w (.bool false) (.slice none 0 0) (.slice none 0 0) 28
  have x0 : Ext w (w.alloc (.cells #[.bool false, .slice none 0 0, .slice none 0 0] 28)) := ext_alloc (Below.refl _ _) _
  have hs0 : w.heap.size + 1 ≤ (w.alloc (.cells #[.bool false, .slice none 0 0, .slice none 0 0] 28)).heap.size := by simp
  generalize w.alloc (.cells #[.bool false, .slice none 0 0, .slice none 0 0] 28) = W0 at *
  have HF := Lib.hid (fun (w' : World) (h : Ext W0 w') => hF0.below h)
  have HE := Lib.hid x0
  have f0 : Ext W0 W0 := Below.refl _ _
  obtain ⟨r0, r1, r2, g0, g1, g2⟩ := hF0
  clear x0
  go_wp2_with (first
    | (go_at_call 33; (with_reducible refine (ocheck_ok (n := (n : Int)) (D := (D : Int)) (by omega) (by omega)).mono ?_); rintro e w1 ⟨rfl, rfl⟩)
    | (go_at_call 53; (with_reducible refine (chance_any hn hD1 hD).mono ?_); rintro e s3 ⟨b3, A3, k3, c3, B3, l3, d3, rfl, h3, z3, n3, m3⟩; obtain ⟨r0, r1, r2, g0, g1, g2⟩ := HF.out _ z3))
  obtain ⟨q0, q1, q2⟩ := set3 r0 r1 r2 (.bool b3) (.slice A3 k3 c3) (.slice B3 l3 d3)
  refine bodyPost_ret (v := .tuple #[.agg #[.bool b3, .slice A3 k3 c3, .slice B3 l3 d3], .int .i64 0]) (by simp [results, Tryd.results28, go_sem, q0, q1, q2]) rfl ?_
  exact GivesFE.box (HE.out.trans z3) h3 (n3.mono (by omega)) (m3.mono (by omega)) (Nat.le_refl _)
set_option maxHeartbeats 2000000 in
theorem ochance_no {n D d : Int} {w : World} (h : ¬ OccIn n D) : Calls Tryd.prog 28 #[.int .i64 n, .int .i64 D, .int .i64 d] w (GivesFN w 2) := by
  go_enter Tryd.func28, Tryd.ntmps28
  go_upto_region 1 with (fail)
  have hF0 := FBox.new w (.bool false) (.slice none 0 0) (.slice none 0 0) 28
  have x0 : Ext w (w.alloc (.cells #[.bool false, .slice none 0 0, .slice none 0 0] 28)) := ext_alloc (Below.refl _ _) _
  have hs0 : w.heap.size + 1 ≤ (w.alloc (.cells #[.bool false, .slice none 0 0, .slice none 0 0] 28)).heap.size := by simp
  generalize w.alloc (.cells #[.bool false, .slice none 0 0, .slice none 0 0] 28) = W0 at *
  have HF := Lib.hid (fun (w' : World) (h : Ext W0 w') => hF0.below h)
  have HE := Lib.hid x0
  have f0 : Ext W0 W0 := Below.refl _ _
  obtain ⟨r0, r1, r2, g0, g1, g2⟩ := hF0
  clear x0
  go_wp2_with (go_at_call 33; (with_reducible refine (ocheck_no h).mono ?_); rintro e w1 ⟨rfl, rfl⟩)
  obtain ⟨q0, q1, q2⟩ := set3 r0 r1 r2 (.bool false) (.slice none 0 0) (.slice none 0 0)
  refine bodyPost_ret (v := .tuple #[.agg #[.bool false, .slice none 0 0, .slice none 0 0], .int .i64 2]) (by simp [results, Tryd.results28, go_sem, q0, q1, q2]) rfl ?_
  exact ⟨rfl, ext_put HE.out (Nat.le_refl _) _ _ _⟩

end Go.Proofs.YtnedgbebajhcpaaDoor
