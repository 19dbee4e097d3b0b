/- The walk of SamplingFalls. -/
import Derived.Test.YtnedgbebajhcpaaDoorSamV
import Derived.Test.YtnedgbebajhcpaaDoorWf
set_option linter.unusedVariables false
set_option linter.unusedSimpArgs false
set_option maxRecDepth 100000
namespace Go.Proofs.YtnedgbebajhcpaaDoor
open Go.RowKit Num

theorem expv_fb {n D m : Nat} (hn : n + m ≤ 30) (hD1 : 1 ≤ D) (hD : D ≤ 60) : FB (meanQ (n + m) D - meanQ n D) 77 := FB.sub (meanQ_fb (by omega) hD1 hD) (meanQ_fb (by omega) hD1 hD) (by omega)

set_option maxHeartbeats 8000000 in
theorem law_SFalls {n D m : Int} {w : World} (hn : -9223372036854775808 ≤ n ∧ n ≤ 9223372036854775807) (hD : -9223372036854775808 ≤ D ∧ D ≤ 9223372036854775807) (hm : -9223372036854775808 ≤ m ∧ m ≤ 9223372036854775807) (ht : Tab10 w) :
    Calls Tryd.prog 5 #[.int .i64 n, .int .i64 D, .int .i64 m] w (fun e w' => e = .returned (.bool true) ∧ Ext w w') := by
  have HT := Lib.hid (fun (w' : World) (h : Ext w w') => ht.ext h)
  clear ht
  go_enter Tryd.func5, Tryd.ntmps5
  go_wp2_with fail
  refine (sawake (HT.out _ (Below.refl _ _))).mono ?_
  rintro e U1 ⟨rfl, y1⟩
  go_wp2_with fail
  refine (mod_i (b := 29) (by omega) (by omega) hn).mono ?_
  rintro e w2 ⟨N, hN, rfl, hw2⟩
  obtain rfl : U1 = w2 := hw2.symm
  go_wp2_with fail
  refine (mod_i (b := 60) (by omega) (by omega) hD).mono ?_
  rintro e w3 ⟨j, hj, rfl, hw3⟩
  obtain rfl : U1 = w3 := hw3.symm
  obtain ⟨E, hE⟩ : ∃ E : Nat, E = j + 1 := ⟨_, rfl⟩
  have hwE : IntKind.i64.wrap (1 + (j : Int)) = (E : Int) := by rw [wrap_in (by omega)]; omega
  have hE1 : 1 ≤ E ∧ E ≤ 60 := by omega
  obtain ⟨R, hR⟩ : ∃ R : Nat, R + N = 30 := ⟨30 - N, by omega⟩
  have hwR : IntKind.i64.wrap (30 - (N : Int)) = (R : Int) := by rw [wrap_in (by omega)]; omega
  have hR2 : 2 ≤ R ∧ R ≤ 30 := by omega
  clear hj hE
  go_wp2_with fail
  refine (mod_i (b := (R : Int)) (by omega) (by omega) hm).mono ?_
  rintro e w4 ⟨M, hM, rfl, hw4⟩
  obtain rfl : U1 = w4 := hw4.symm
  obtain ⟨S, hS⟩ : ∃ S : Nat, S + M = R := ⟨R - M, by omega⟩
  have hwS : IntKind.i64.wrap ((R : Int) - (M : Int)) = (S : Int) := by rw [wrap_in (by omega)]; omega
  have hwN : IntKind.i64.wrap ((N : Int) + 1) = (N : Int) + 1 := wrap_in (by omega)
  have hwM : IntKind.i64.wrap ((N : Int) + (M : Int)) = (N : Int) + (M : Int) := wrap_in (by omega)
  have HA := Lib.hid (fun (w' : World) (h : Ext w w') => (show Calls Tryd.prog 10 #[.int .i64 N, .int .i64 E, .int .i64 1] w' (GivesFE w' (meanQ (N + 1) E - meanQ N E)) from sexp_ok (n := N) (D := E) (m := 1) (by omega) hE1.1 hE1.2 (HT.out _ h)))
  have HB := Lib.hid (fun (w' : World) (h : Ext w w') => (show Calls Tryd.prog 10 #[.int .i64 ((N : Int) + 1), .int .i64 E, .int .i64 1] w' (GivesFE w' (meanQ (N + 1 + 1) E - meanQ (N + 1) E)) from by
    have h0 := sexp_ok (n := N + 1) (D := E) (m := 1) (by omega) hE1.1 hE1.2 (HT.out _ h)
    rw [show ((N + 1 : Nat) : Int) = (N : Int) + 1 from by omega] at h0
    exact h0))
  have HCc := Lib.hid (fun (w' : World) (h : Ext w w') => (show Calls Tryd.prog 10 #[.int .i64 N, .int .i64 E, .int .i64 M] w' (GivesFE w' (meanQ (N + M) E - meanQ N E)) from sexp_ok (n := N) (D := E) (m := M) (by omega) hE1.1 hE1.2 (HT.out _ h)))
  have HDd := Lib.hid (fun (w' : World) (h : Ext w w') => (show Calls Tryd.prog 10 #[.int .i64 ((N : Int) + (M : Int)), .int .i64 E, .int .i64 S] w' (GivesFE w' (meanQ (N + M + S) E - meanQ (N + M) E)) from by
    have h0 := sexp_ok (n := N + M) (D := E) (m := S) (by omega) hE1.1 hE1.2 (HT.out _ h)
    rw [show ((N + M : Nat) : Int) = (N : Int) + (M : Int) from by omega] at h0
    exact h0))
  have HEe := Lib.hid (fun (w' : World) (h : Ext w w') => (show Calls Tryd.prog 10 #[.int .i64 N, .int .i64 E, .int .i64 R] w' (GivesFE w' (meanQ (N + R) E - meanQ N E)) from sexp_ok (n := N) (D := E) (m := R) (by omega) hE1.1 hE1.2 (HT.out _ h)))
  have F1 := Lib.hid (expv_fb (n := N) (D := E) (m := 1) (by omega) hE1.1 hE1.2)
  have F2 := Lib.hid (expv_fb (n := N + 1) (D := E) (m := 1) (by omega) hE1.1 hE1.2)
  have F3 := Lib.hid (expv_fb (n := N) (D := E) (m := M) (by omega) hE1.1 hE1.2)
  have F4 := Lib.hid (expv_fb (n := N + M) (D := E) (m := S) (by omega) hE1.1 hE1.2)
  have F5 := Lib.hid (expv_fb (n := N) (D := E) (m := R) (by omega) hE1.1 hE1.2)
  have V1 : meanQ (N + 1 + 1) E - meanQ (N + 1) E ≤ meanQ (N + 1) E - meanQ N E := by
    rw [meanQ_next hE1.1, meanQ_next hE1.1]; exact dlt_next hE1.1
  have V2 : 0 ≤ meanQ (N + 1 + 1) E - meanQ (N + 1) E := by rw [meanQ_next hE1.1]; exact dlt_nonneg _ _
  have V3 : meanQ (N + M) E - meanQ N E + (meanQ (N + M + S) E - meanQ (N + M) E) = meanQ (N + R) E - meanQ N E := by
    rw [show N + M + S = N + R from by omega]; grind
  obtain ⟨qa, hqa⟩ : ∃ q, q = meanQ (N + 1) E - meanQ N E := ⟨_, rfl⟩
  obtain ⟨qb, hqb⟩ : ∃ q, q = meanQ (N + 1 + 1) E - meanQ (N + 1) E := ⟨_, rfl⟩
  obtain ⟨qc, hqc⟩ : ∃ q, q = meanQ (N + M) E - meanQ N E := ⟨_, rfl⟩
  obtain ⟨qd, hqd⟩ : ∃ q, q = meanQ (N + M + S) E - meanQ (N + M) E := ⟨_, rfl⟩
  obtain ⟨qe, hqe⟩ : ∃ q, q = meanQ (N + R) E - meanQ N E := ⟨_, rfl⟩
  rw [← hqa] at HA F1 V1
  rw [← hqb] at HB F2 V1 V2
  rw [← hqc] at HCc F3 V3
  rw [← hqd] at HDd F4 V3
  rw [← hqe] at HEe F5 V3
  obtain ⟨z1, hz1⟩ : ∃ z, cmpQ qb qa = z := ⟨_, rfl⟩
  obtain ⟨z2, hz2⟩ : ∃ z, sgnQ qb = z := ⟨_, rfl⟩
  have e1 : decide (z1 ≤ 0) = true := decide_eq_true (by
    have h : ¬ 0 < z1 := by rw [← hz1, cmpQ_pos]; grind
    omega)
  have e2 : decide (0 ≤ z2) = true := decide_eq_true (by
    have h : ¬ z2 < 0 := by rw [← hz2, sgnQ_neg]; grind
    omega)
  have HZ1 := Lib.hid hz1
  have HZ2 := Lib.hid hz2
  have HZ3 := Lib.hid (show cmpQ (qc + qd) qe = 0 from (cmpQ_zero _ _).2 V3)
  have F6 := Lib.hid (FB.add F3.out F4.out (by omega))
  clear V1 V2 V3 hqa hqb hqc hqd hqe hz1 hz2 hn hD hm hM
  go_wp2_with fail
  refine (HA.out _ y1).mono ?_
  rintro e w1 ⟨b1, A1, k1, c1, A1', k1', c1', rfl, h1, y1, n1, n1'⟩
  clear n1 n1'
  go_upto_region 6 with (fail)
  have hG1 := FBox.new w1 (.bool b1) (.slice A1 k1 c1) (.slice A1' k1' c1') 28
  have Y1 : Ext U1 (w1.alloc (.cells #[.bool b1, .slice A1 k1 c1, .slice A1' k1' c1'] 28)) := ext_alloc y1 _
  have h1 := h1.below (ext_alloc (Below.refl _ _) (.cells #[.bool b1, .slice A1 k1 c1, .slice A1' k1' c1'] 28))
  have hsz1 : w1.heap.size < (w1.alloc (.cells #[.bool b1, .slice A1 k1 c1, .slice A1' k1' c1'] 28)).heap.size := by simp
  generalize w1.alloc (.cells #[.bool b1, .slice A1 k1 c1, .slice A1' k1' c1'] 28) = W1 at *
  generalize w1.heap.size = B1 at *
  have HG1 := Lib.hid (fun (w' : World) (h : Ext W1 w') => hG1.below h)
  have HP1 := Lib.hid (fun (w' : World) (h : Ext W1 w') => FracV.any (h1.below h) (F1.out) (by omega))
  have HB1 := Lib.hid (fun (w' : World) (h : Ext W1 w') => h1.below h)
  clear hG1 h1 y1 hsz1
  go_wp2_with fail
  refine (HB.out _ (y1.trans Y1)).mono ?_
  rintro e w2 ⟨b2, A2, k2, c2, A2', k2', c2', rfl, h2, y2, n2, n2'⟩
  clear n2 n2'
  go_upto_region 7 with (fail)
  have hG2 := FBox.new w2 (.bool b2) (.slice A2 k2 c2) (.slice A2' k2' c2') 28
  have Y2 : Ext W1 (w2.alloc (.cells #[.bool b2, .slice A2 k2 c2, .slice A2' k2' c2'] 28)) := ext_alloc y2 _
  have h2 := h2.below (ext_alloc (Below.refl _ _) (.cells #[.bool b2, .slice A2 k2 c2, .slice A2' k2' c2'] 28))
  have hsz2 : w2.heap.size < (w2.alloc (.cells #[.bool b2, .slice A2 k2 c2, .slice A2' k2' c2'] 28)).heap.size := by simp
  generalize w2.alloc (.cells #[.bool b2, .slice A2 k2 c2, .slice A2' k2' c2'] 28) = W2 at *
  generalize w2.heap.size = B2 at *
  have HG2 := Lib.hid (fun (w' : World) (h : Ext W2 w') => hG2.below h)
  have HP2 := Lib.hid (fun (w' : World) (h : Ext W2 w') => FracV.any (h2.below h) (F2.out) (by omega))
  have HB2 := Lib.hid (fun (w' : World) (h : Ext W2 w') => h2.below h)
  clear hG2 h2 y2 hsz2
  go_wp2_with fail
  refine (HCc.out _ (y1.trans (Y1.trans Y2))).mono ?_
  rintro e w3 ⟨b3, A3, k3, c3, A3', k3', c3', rfl, h3, y3, n3, n3'⟩
  clear n3 n3'
  go_upto_region 8 with (fail)
  have hG3 := FBox.new w3 (.bool b3) (.slice A3 k3 c3) (.slice A3' k3' c3') 28
  have Y3 : Ext W2 (w3.alloc (.cells #[.bool b3, .slice A3 k3 c3, .slice A3' k3' c3'] 28)) := ext_alloc y3 _
  have h3 := h3.below (ext_alloc (Below.refl _ _) (.cells #[.bool b3, .slice A3 k3 c3, .slice A3' k3' c3'] 28))
  have hsz3 : w3.heap.size < (w3.alloc (.cells #[.bool b3, .slice A3 k3 c3, .slice A3' k3' c3'] 28)).heap.size := by simp
  generalize w3.alloc (.cells #[.bool b3, .slice A3 k3 c3, .slice A3' k3' c3'] 28) = W3 at *
  generalize w3.heap.size = B3 at *
  have HG3 := Lib.hid (fun (w' : World) (h : Ext W3 w') => hG3.below h)
  have HP3 := Lib.hid (fun (w' : World) (h : Ext W3 w') => FracV.any (h3.below h) (F3.out) (by omega))
  have HB3 := Lib.hid (fun (w' : World) (h : Ext W3 w') => h3.below h)
  clear hG3 h3 y3 hsz3
  go_wp2_with fail
  refine (HDd.out _ (y1.trans (Y1.trans (Y2.trans Y3)))).mono ?_
  rintro e w4 ⟨b4, A4, k4, c4, A4', k4', c4', rfl, h4, y4, n4, n4'⟩
  clear n4 n4'
  go_upto_region 9 with (fail)
  have hG4 := FBox.new w4 (.bool b4) (.slice A4 k4 c4) (.slice A4' k4' c4') 28
  have Y4 : Ext W3 (w4.alloc (.cells #[.bool b4, .slice A4 k4 c4, .slice A4' k4' c4'] 28)) := ext_alloc y4 _
  have h4 := h4.below (ext_alloc (Below.refl _ _) (.cells #[.bool b4, .slice A4 k4 c4, .slice A4' k4' c4'] 28))
  have hsz4 : w4.heap.size < (w4.alloc (.cells #[.bool b4, .slice A4 k4 c4, .slice A4' k4' c4'] 28)).heap.size := by simp
  generalize w4.alloc (.cells #[.bool b4, .slice A4 k4 c4, .slice A4' k4' c4'] 28) = W4 at *
  generalize w4.heap.size = B4 at *
  have HG4 := Lib.hid (fun (w' : World) (h : Ext W4 w') => hG4.below h)
  have HP4 := Lib.hid (fun (w' : World) (h : Ext W4 w') => FracV.any (h4.below h) (F4.out) (by omega))
  have HB4 := Lib.hid (fun (w' : World) (h : Ext W4 w') => h4.below h)
  clear hG4 h4 y4 hsz4
  go_wp2_with fail
  refine (HEe.out _ (y1.trans (Y1.trans (Y2.trans (Y3.trans Y4))))).mono ?_
  rintro e w5 ⟨b5, A5, k5, c5, A5', k5', c5', rfl, h5, y5, n5, n5'⟩
  clear n5 n5'
  go_upto_region 10 with (fail)
  have hG5 := FBox.new w5 (.bool b5) (.slice A5 k5 c5) (.slice A5' k5' c5') 28
  have Y5 : Ext W4 (w5.alloc (.cells #[.bool b5, .slice A5 k5 c5, .slice A5' k5' c5'] 28)) := ext_alloc y5 _
  have h5 := h5.below (ext_alloc (Below.refl _ _) (.cells #[.bool b5, .slice A5 k5 c5, .slice A5' k5' c5'] 28))
  have hsz5 : w5.heap.size < (w5.alloc (.cells #[.bool b5, .slice A5 k5 c5, .slice A5' k5' c5'] 28)).heap.size := by simp
  generalize w5.alloc (.cells #[.bool b5, .slice A5 k5 c5, .slice A5' k5' c5'] 28) = W5 at *
  generalize w5.heap.size = B5 at *
  have HG5 := Lib.hid (fun (w' : World) (h : Ext W5 w') => hG5.below h)
  have HP5 := Lib.hid (fun (w' : World) (h : Ext W5 w') => FracV.any (h5.below h) (F5.out) (by omega))
  have HB5 := Lib.hid (fun (w' : World) (h : Ext W5 w') => h5.below h)
  clear hG5 h5 y5 hsz5
  have E4 : Ext W4 W5 := Y5
  have E3 : Ext W3 W5 := Y4.trans E4
  have E2 : Ext W2 W5 := Y3.trans E3
  have E1 : Ext W1 W5 := Y2.trans E2
  have X5 : Ext w W5 := y1.trans (Y1.trans E1)
  have HS := Lib.hid (fun (w' : World) (h : Ext W5 w') => (⟨⟨(HG1.out _ (E1.trans h)).1, (HG1.out _ (E1.trans h)).2.1, (HG1.out _ (E1.trans h)).2.2.1⟩, ⟨(HG2.out _ (E2.trans h)).1, (HG2.out _ (E2.trans h)).2.1, (HG2.out _ (E2.trans h)).2.2.1⟩, ⟨(HG3.out _ (E3.trans h)).1, (HG3.out _ (E3.trans h)).2.1, (HG3.out _ (E3.trans h)).2.2.1⟩, ⟨(HG4.out _ (E4.trans h)).1, (HG4.out _ (E4.trans h)).2.1, (HG4.out _ (E4.trans h)).2.2.1⟩, (HG5.out _ h).1, (HG5.out _ h).2.1, (HG5.out _ h).2.2.1⟩ :
    (w'.cell? ⟨B1, 0, none⟩ = some (.bool b1) ∧ w'.cell? ⟨B1, 1, none⟩ = some (.slice A1 k1 c1) ∧ w'.cell? ⟨B1, 2, none⟩ = some (.slice A1' k1' c1')) ∧ (w'.cell? ⟨B2, 0, none⟩ = some (.bool b2) ∧ w'.cell? ⟨B2, 1, none⟩ = some (.slice A2 k2 c2) ∧ w'.cell? ⟨B2, 2, none⟩ = some (.slice A2' k2' c2')) ∧
    (w'.cell? ⟨B3, 0, none⟩ = some (.bool b3) ∧ w'.cell? ⟨B3, 1, none⟩ = some (.slice A3 k3 c3) ∧ w'.cell? ⟨B3, 2, none⟩ = some (.slice A3' k3' c3')) ∧ (w'.cell? ⟨B4, 0, none⟩ = some (.bool b4) ∧ w'.cell? ⟨B4, 1, none⟩ = some (.slice A4 k4 c4) ∧ w'.cell? ⟨B4, 2, none⟩ = some (.slice A4' k4' c4')) ∧
    w'.cell? ⟨B5, 0, none⟩ = some (.bool b5) ∧ w'.cell? ⟨B5, 1, none⟩ = some (.slice A5 k5 c5) ∧ w'.cell? ⟨B5, 2, none⟩ = some (.slice A5' k5' c5')))
  go_upto_region 11 with (fail)
  refine wp_region_G (fun w' => Ext W5 w') [20] (by kernel_rfl) ?_
  have gS : Ext W5 W5.drew := (Below.refl _ _).drew
  refine wpAnyG_take 0 (v := ?_) rfl (by kernel_rfl) (by kernel_rfl) (by kernel_rfl) (by kernel_rfl) (by rfl) (by kernel_rfl) (fun _ _ _ h => h) (by rfl) (fun w' hw' => ?_) gS ?_
  rotate_left
  focus (go_simp; (try with_reducible rfl); done)
  (try simp only [Act.put, List.getElem_toArray, List.getElem_cons_succ, List.getElem_cons_zero, List.setIfInBounds_toArray, List.set_cons_zero, List.set_cons_succ])
  refine wpAnyG_take 1 (v := ?_) rfl (by kernel_rfl) (by kernel_rfl) (by kernel_rfl) (by kernel_rfl) (by rfl) (by kernel_rfl) (fun _ _ _ h => h) (by rfl) (fun w' hw' => ?_) gS ?_
  rotate_left
  focus (go_simp; (try with_reducible rfl); done)
  (try simp only [Act.put, List.getElem_toArray, List.getElem_cons_succ, List.getElem_cons_zero, List.setIfInBounds_toArray, List.set_cons_zero, List.set_cons_succ])
  refine wpAnyG_take 2 (v := ?_) rfl (by kernel_rfl) (by kernel_rfl) (by kernel_rfl) (by kernel_rfl) (by rfl) (by kernel_rfl) (fun _ _ _ h => h) (by rfl) (fun w' hw' => ?_) gS ?_
  rotate_left
  focus (have hh := HS.out _ hw'; go_split_ands; go_simp; (try with_reducible rfl); done)
  (try simp only [Act.put, List.getElem_toArray, List.getElem_cons_succ, List.getElem_cons_zero, List.setIfInBounds_toArray, List.set_cons_zero, List.set_cons_succ])
  refine wpAnyG_take 3 (v := ?_) rfl (by kernel_rfl) (by kernel_rfl) (by kernel_rfl) (by kernel_rfl) (by rfl) (by kernel_rfl) (fun _ _ _ h => h) (by rfl) (fun w' hw' => ?_) gS ?_
  rotate_left
  focus (have hh := HS.out _ hw'; go_split_ands; go_simp; (try with_reducible rfl); done)
  (try simp only [Act.put, List.getElem_toArray, List.getElem_cons_succ, List.getElem_cons_zero, List.setIfInBounds_toArray, List.set_cons_zero, List.set_cons_succ])
  refine wpAnyG_one 4 (by kernel_rfl) rfl (by rfl) (fun K hK => ?_)
  go_simp
  go_at_call 14
  refine (cmp_e (HP2.out _ (E2.trans gS)) (HP1.out _ (E1.trans gS)) (by omega) HZ1.out).mono ?_
  rintro _ s1 ⟨rfl, z7⟩
  have gS : Ext W5 s1 := Ext.trans gS z7
  (try go_wp2_with fail)
  refine hK.out _ _ (fun _ => gS) ?_
  clear hK K
  (try simp only [Act.put, List.getElem_toArray, List.getElem_cons_succ, List.getElem_cons_zero, List.setIfInBounds_toArray, List.set_cons_zero, List.set_cons_succ])
  refine wpAnyG_take 5 (v := ?_) rfl (by kernel_rfl) (by kernel_rfl) (by kernel_rfl) (by kernel_rfl) (by rfl) (by kernel_rfl) (fun _ _ _ h => h) (by rfl) (fun w' hw' => ?_) gS ?_
  rotate_left
  focus (go_simp; (try with_reducible rfl); done)
  (try simp only [Act.put, List.getElem_toArray, List.getElem_cons_succ, List.getElem_cons_zero, List.setIfInBounds_toArray, List.set_cons_zero, List.set_cons_succ])
  refine wpAnyG_take 6 (v := ?_) rfl (by kernel_rfl) (by kernel_rfl) (by kernel_rfl) (by kernel_rfl) (by rfl) (by kernel_rfl) (fun _ _ _ h => h) (by rfl) (fun w' hw' => ?_) gS ?_
  rotate_left
  focus (go_simp; (try with_reducible rfl); done)
  (try simp only [Act.put, List.getElem_toArray, List.getElem_cons_succ, List.getElem_cons_zero, List.setIfInBounds_toArray, List.set_cons_zero, List.set_cons_succ])
  refine wpAnyG_take 7 (v := ?_) rfl (by kernel_rfl) (by kernel_rfl) (by kernel_rfl) (by kernel_rfl) (by rfl) (by kernel_rfl) (fun _ _ _ h => h) (by rfl) (fun w' hw' => ?_) gS ?_
  rotate_left
  focus (go_simp; (try with_reducible rfl); done)
  (try simp only [Act.put, List.getElem_toArray, List.getElem_cons_succ, List.getElem_cons_zero, List.setIfInBounds_toArray, List.set_cons_zero, List.set_cons_succ])
  refine wpAnyG_take 8 (v := ?_) rfl (by kernel_rfl) (by kernel_rfl) (by kernel_rfl) (by kernel_rfl) (by rfl) (by kernel_rfl) (fun _ _ _ h => h) (by rfl) (fun w' hw' => ?_) gS ?_
  rotate_left
  focus (have hh := HS.out _ hw'; go_split_ands; go_simp; (try with_reducible rfl); done)
  (try simp only [Act.put, List.getElem_toArray, List.getElem_cons_succ, List.getElem_cons_zero, List.setIfInBounds_toArray, List.set_cons_zero, List.set_cons_succ])
  refine wpAnyG_one 9 (by kernel_rfl) rfl (by rfl) (fun K hK => ?_)
  (try simp only [List.getElem_toArray, List.getElem_cons_succ, List.getElem_cons_zero])
  go_simp
  go_at_call 23
  refine (sign_e (HP2.out _ (E2.trans gS)) HZ2.out).mono ?_
  rintro _ s2 ⟨rfl, z8⟩
  have gS : Ext W5 s2 := Ext.trans gS z8
  (try go_wp2_with fail)
  refine hK.out _ _ (fun _ => gS) ?_
  clear hK K
  (try simp only [Act.put, List.getElem_toArray, List.getElem_cons_succ, List.getElem_cons_zero, List.setIfInBounds_toArray, List.set_cons_zero, List.set_cons_succ])
  refine wpAnyG_take 10 (v := ?_) rfl (by kernel_rfl) (by kernel_rfl) (by kernel_rfl) (by kernel_rfl) (by rfl) (by kernel_rfl) (fun _ _ _ h => h) (by rfl) (fun w' hw' => ?_) gS ?_
  rotate_left
  focus (go_simp; (try with_reducible rfl); done)
  (try simp only [Act.put, List.getElem_toArray, List.getElem_cons_succ, List.getElem_cons_zero, List.setIfInBounds_toArray, List.set_cons_zero, List.set_cons_succ])
  refine wpAnyG_take 11 (v := ?_) rfl (by kernel_rfl) (by kernel_rfl) (by kernel_rfl) (by kernel_rfl) (by rfl) (by kernel_rfl) (fun _ _ _ h => h) (by rfl) (fun w' hw' => ?_) gS ?_
  rotate_left
  focus (go_simp; (try with_reducible rfl); done)
  (try simp only [Act.put, List.getElem_toArray, List.getElem_cons_succ, List.getElem_cons_zero, List.setIfInBounds_toArray, List.set_cons_zero, List.set_cons_succ])
  refine wpAnyG_take 12 (v := ?_) rfl (by kernel_rfl) (by kernel_rfl) (by kernel_rfl) (by kernel_rfl) (by rfl) (by kernel_rfl) (fun _ _ _ h => h) (by rfl) (fun w' hw' => ?_) gS ?_
  rotate_left
  focus (go_simp; (try with_reducible rfl); done)
  (try simp only [Act.put, List.getElem_toArray, List.getElem_cons_succ, List.getElem_cons_zero, List.setIfInBounds_toArray, List.set_cons_zero, List.set_cons_succ])
  refine wpAnyG_take 13 (v := ?_) rfl (by kernel_rfl) (by kernel_rfl) (by kernel_rfl) (by kernel_rfl) (by rfl) (by kernel_rfl) (fun _ _ _ h => h) (by rfl) (fun w' hw' => ?_) gS ?_
  rotate_left
  focus (have hh := HS.out _ hw'; go_split_ands; go_simp; (try with_reducible rfl); done)
  (try simp only [Act.put, List.getElem_toArray, List.getElem_cons_succ, List.getElem_cons_zero, List.setIfInBounds_toArray, List.set_cons_zero, List.set_cons_succ])
  refine wpAnyG_take 14 (v := ?_) rfl (by kernel_rfl) (by kernel_rfl) (by kernel_rfl) (by kernel_rfl) (by rfl) (by kernel_rfl) (fun _ _ _ h => h) (by rfl) (fun w' hw' => ?_) gS ?_
  rotate_left
  focus (have hh := HS.out _ hw'; go_split_ands; go_simp; (try with_reducible rfl); done)
  (try simp only [Act.put, List.getElem_toArray, List.getElem_cons_succ, List.getElem_cons_zero, List.setIfInBounds_toArray, List.set_cons_zero, List.set_cons_succ])
  refine wpAnyG_take 16 (v := ?_) rfl (by kernel_rfl) (by kernel_rfl) (by kernel_rfl) (by kernel_rfl) (by rfl) (by kernel_rfl) (fun _ _ _ h => h) (by rfl) (fun w' hw' => ?_) gS ?_
  rotate_left
  focus (have hh := HS.out _ hw'; go_split_ands; go_simp; (try with_reducible rfl); done)
  (try simp only [Act.put, List.getElem_toArray, List.getElem_cons_succ, List.getElem_cons_zero, List.setIfInBounds_toArray, List.set_cons_zero, List.set_cons_succ])
  refine wpAnyG_one 15 (by kernel_rfl) rfl (by rfl) (fun K hK => ?_)
  (try simp only [List.getElem_toArray, List.getElem_cons_succ, List.getElem_cons_zero])
  go_simp
  go_at_call 24
  refine (add_f (HP3.out _ (E3.trans gS)) (HP4.out _ (E4.trans gS)) F3.out F4.out (by omega)).mono ?_
  rintro _ s3 ⟨b6, A6, k6, c6, B6, l6, d6, rfl, h6, z9, _, _⟩
  have gS : Ext W5 s3 := Ext.trans gS z9
  (try go_wp2_with fail)
  refine hK.out _ _ (fun _ => gS) ?_
  clear hK K
  (try simp only [Act.put, List.getElem_toArray, List.getElem_cons_succ, List.getElem_cons_zero, List.setIfInBounds_toArray, List.set_cons_zero, List.set_cons_succ])
  refine wpAnyG_one 17 (by kernel_rfl) rfl (by rfl) (fun K hK => ?_)
  (try simp only [List.getElem_toArray, List.getElem_cons_succ, List.getElem_cons_zero])
  go_simp
  go_at_call 14
  refine (cmp_e (FracV.any h6 F6.out (by omega)) (HP5.out _ gS) (by omega) HZ3.out).mono ?_
  rintro _ s4 ⟨rfl, z10⟩
  have gS : Ext W5 s4 := Ext.trans gS z10
  have f5 := gS
  (try go_wp2_with fail)
  refine hK.out _ _ (fun _ => gS) ?_
  clear hK K
  (try simp only [Act.put, List.getElem_toArray, List.getElem_cons_succ, List.getElem_cons_zero, List.setIfInBounds_toArray, List.set_cons_zero, List.set_cons_succ])
  refine wpAnyG_take 18 (v := ?_) rfl (by kernel_rfl) (by kernel_rfl) (by kernel_rfl) (by kernel_rfl) (by rfl) (by kernel_rfl) (fun _ _ _ h => h) (by rfl) (fun w' hw' => ?_) gS ?_
  rotate_left
  focus (go_simp; (try with_reducible rfl); done)
  (try simp only [Act.put, List.getElem_toArray, List.getElem_cons_succ, List.getElem_cons_zero, List.setIfInBounds_toArray, List.set_cons_zero, List.set_cons_succ])
  refine wpAnyG_take 19 (v := ?_) rfl (by kernel_rfl) (by kernel_rfl) (by kernel_rfl) (by kernel_rfl) (by rfl) (by kernel_rfl) (fun _ _ _ h => h) (by rfl) (fun w' hw' => ?_) gS ?_
  rotate_left
  focus (go_simp; (try with_reducible rfl); done)
  (try simp only [Act.put, List.getElem_toArray, List.getElem_cons_succ, List.getElem_cons_zero, List.setIfInBounds_toArray, List.set_cons_zero, List.set_cons_succ])
  refine wpAnyG_one 20 (by kernel_rfl) rfl (by rfl) (fun K hK => ?_)
  (try simp only [List.getElem_toArray, List.getElem_cons_succ, List.getElem_cons_zero])
  go_simp
  refine hK.out _ _ (fun h => absurd h (by decide)) ?_
  clear hK K
  (try simp only [Act.put, List.getElem_toArray, List.getElem_cons_succ, List.getElem_cons_zero, List.setIfInBounds_toArray, List.set_cons_zero, List.set_cons_succ])
  refine wpAnyG_done (by kernel_rfl) ?_ _
  go_wp2
  go_ret
  exact ⟨rfl, X5.trans f5⟩

end Go.Proofs.YtnedgbebajhcpaaDoor
