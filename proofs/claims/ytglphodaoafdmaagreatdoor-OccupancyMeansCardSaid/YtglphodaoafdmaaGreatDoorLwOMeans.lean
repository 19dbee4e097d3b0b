/- The walk of OccupancyMeans. -/
import Derived.Test.YtglphodaoafdmaaGreatDoorOcW
import Derived.Test.YtglphodaoafdmaaGreatDoorOcM2
set_option linter.unusedVariables false
set_option linter.unusedSimpArgs false
set_option maxRecDepth 100000
namespace Go.Proofs.YtglphodaoafdmaaGreatDoor
open Go.RowKit Num

theorem means_both {n D : Int} : ∃ b m k er, (∀ w, Tab10 w → Calls Tryz.prog 5 #[.int .i64 n, .int .i64 D] w (GivesP w b m k er)) ∧ (∀ w, Calls Tryz.prog 6 #[.int .i64 n, .int .i64 D] w (GivesP w b m k er)) := by
  by_cases h : OccIn n D
  · obtain ⟨⟨h1, h2⟩, h3, h4⟩ := h
    obtain ⟨N, rfl⟩ : ∃ N : Nat, n = N := ⟨n.toNat, by omega⟩
    obtain ⟨E, rfl⟩ : ∃ E : Nat, D = E := ⟨D.toNat, by omega⟩
    exact ⟨_, _, _, _, fun w ht => (omean_ok (n := N) (D := E) (by omega) (by omega) (by omega) ht).mono fun _ _ h => h.p, fun w => (rmean_ok (n := N) (D := E) (by omega) (by omega) (by omega)).mono fun _ _ h => h.p⟩
  · exact ⟨_, _, _, _, fun w ht => (omean_no h).mono fun _ _ h => h.p, fun w => (rmean_no h).mono fun _ _ h => h.p⟩
theorem singles_both {n D : Int} : ∃ b m k er, (∀ w, Tab10 w → Calls Tryz.prog 7 #[.int .i64 n, .int .i64 D] w (GivesP w b m k er)) ∧ (∀ w, Calls Tryz.prog 8 #[.int .i64 n, .int .i64 D] w (GivesP w b m k er)) := by
  by_cases h : OccIn n D
  · obtain ⟨⟨h1, h2⟩, h3, h4⟩ := h
    obtain ⟨N, rfl⟩ : ∃ N : Nat, n = N := ⟨n.toNat, by omega⟩
    obtain ⟨E, rfl⟩ : ∃ E : Nat, D = E := ⟨D.toNat, by omega⟩
    by_cases h0 : N = 0
    · subst h0
      refine ⟨_, _, _, _, fun w ht => (osingles_z (D := E) (by omega) (by omega)).mono fun _ _ h => h.p, fun w => (rsingles_ok (n := 0) (D := E) (by omega) (by omega) (by omega)).mono fun _ _ h => ?_⟩
      exact h.p
    · refine ⟨_, _, _, _, fun w ht => (osingles_ok (n := N) (D := E) (by omega) (by omega) (by omega) (by omega) ht).mono fun _ _ h => h.p, fun w => (rsingles_ok (n := N) (D := E) (by omega) (by omega) (by omega)).mono fun _ _ h => ?_⟩
      rw [singV_eq (by omega)] at h
      exact h.p
  · exact ⟨_, _, _, _, fun w ht => (osingles_no h).mono fun _ _ h => h.p, fun w => (rsingles_no h).mono fun _ _ h => h.p⟩
theorem unequal_both {n : Int} {us : List Int} {A : Option Addr} {c : Nat} (hl : us.length ≤ 20) : ∃ b m k er, (∀ w, Tab10 w → IntsV w (.slice A us.length c) us → Calls Tryz.prog 9 #[.int .i64 n, .slice A us.length c] w (GivesP w b m k er)) ∧ (∀ w, IntsV w (.slice A us.length c) us → Calls Tryz.prog 10 #[.int .i64 n, .slice A us.length c] w (GivesP w b m k er)) := by
  by_cases h : 0 ≤ n ∧ n ≤ 30
  · obtain ⟨N, rfl⟩ : ∃ N : Nat, n = N := ⟨n.toNat, by omega⟩
    by_cases hu : UsesIn us ∧ 1 ≤ us.length ∧ us.length ≤ 12
    · exact ⟨_, _, _, _, fun w ht hv => (ounequal_ok (n := N) (by omega) hv hu.1 hu.2.1 hu.2.2 ht).mono fun _ _ h => h.p, fun w hv => (runequal_ok (n := N) (by omega) hv hu.1 hu.2.1 hu.2.2).mono fun _ _ h => h.p⟩
    · exact ⟨_, _, _, _, fun w ht hv => (ounequal_arg h hl hv hu).mono fun _ _ h => h.p, fun w hv => (runequal_arg h hv hu).mono fun _ _ h => h.p⟩
  · exact ⟨_, _, _, _, fun w ht hv => (ounequal_no (by omega)).mono fun _ _ h => h.p, fun w hv => (runequal_no (by omega)).mono fun _ _ h => h.p⟩

set_option maxHeartbeats 8000000 in
theorem law_OMeans {n D : Int} {zs : List Int} {v : Value} {w : World} (hkv : KInts .i64 w v zs) (ht : Tab10 w) :
    Calls Tryz.prog 3 #[.int .i64 n, .int .i64 D, v] w (fun e w' => e = .returned (.bool true) ∧ Ext w w') := by
  have hv := hkv.ints
  obtain ⟨A, c, rfl, hc1, hc2, _⟩ := id hv
  have HT := Lib.hid (fun (w' : World) (h : Ext w w') => ht.ext h)
  have HV := Lib.hid (fun (w' : World) (h : Ext w w') => hv.below h)
  clear hkv hv
  by_cases hl : zs.length ≤ 20
  · obtain ⟨b1, m1, k1, e1, C1, C2⟩ := means_both (n := n) (D := D)
    obtain ⟨b3, m3, k3, e3, C3, C4⟩ := singles_both (n := n) (D := D)
    obtain ⟨b5, m5, k5, e5, C5, C6⟩ := unequal_both (n := n) (us := zs) (A := A) (c := c) hl
    have H1 := Lib.hid C1
    have H2 := Lib.hid C2
    have H3 := Lib.hid C3
    have H4 := Lib.hid C4
    have H5 := Lib.hid C5
    have H6 := Lib.hid C6
    have hlz : decide ((20 : Int) < (zs.length : Int)) = false := decide_eq_false (by omega)
    have hlz2 : ¬ 20 < zs.length := by omega
    clear C1 C2 C3 C4 C5 C6
    go_enter Tryz.func3, Tryz.ntmps3
    go_wp2_with fail
    refine (oawake ht).mono ?_
    rintro e W0 ⟨rfl, V0⟩
    clear ht
    go_wp2_with fail
    refine (H1.out _ (HT.out _ V0)).mono ?_
    rintro e w1 ⟨A1, k1, c1, A1', k1', c1', rfl, h1, g1, y1, n1, n1'⟩
    clear n1 n1'
    go_upto_region 4 with (fail)
    have hG1 := FBox.new w1 (.bool b1) (.slice A1 k1 c1) (.slice A1' k1' c1') 28
    have Y1 : Ext W0 (w1.alloc (.cells #[.bool b1, .slice A1 k1 c1, .slice A1' k1' c1'] 28)) := ext_alloc y1 _
    have h1 := h1.below (ext_alloc (Below.refl _ _) (.cells #[.bool b1, .slice A1 k1 c1, .slice A1' k1' c1'] 28))
    have g1 := g1.below (ext_alloc (Below.refl _ _) (.cells #[.bool b1, .slice A1 k1 c1, .slice A1' k1' c1'] 28))
    have hsz1 : w1.heap.size < (w1.alloc (.cells #[.bool b1, .slice A1 k1 c1, .slice A1' k1' c1'] 28)).heap.size := by simp
    generalize w1.alloc (.cells #[.bool b1, .slice A1 k1 c1, .slice A1' k1' c1'] 28) = W1 at *
    generalize w1.heap.size = B1 at *
    have HG1 := Lib.hid (fun (w' : World) (h : Ext W1 w') => hG1.below h)
    have HC1 := Lib.hid (fun (w' : World) (h : Ext W1 w') => And.intro (h1.below h) (g1.below h))
    clear hG1 h1 g1 y1 hsz1
    go_wp2_with fail
    refine (H2.out _).mono ?_
    rintro e w2 ⟨A2, k2, c2, A2', k2', c2', rfl, h2, g2, y2, n2, n2'⟩
    clear n2 n2'
    go_upto_region 5 with (fail)
    have hG2 := FBox.new w2 (.bool b1) (.slice A2 k2 c2) (.slice A2' k2' c2') 28
    have Y2 : Ext W1 (w2.alloc (.cells #[.bool b1, .slice A2 k2 c2, .slice A2' k2' c2'] 28)) := ext_alloc y2 _
    have h2 := h2.below (ext_alloc (Below.refl _ _) (.cells #[.bool b1, .slice A2 k2 c2, .slice A2' k2' c2'] 28))
    have g2 := g2.below (ext_alloc (Below.refl _ _) (.cells #[.bool b1, .slice A2 k2 c2, .slice A2' k2' c2'] 28))
    have hsz2 : w2.heap.size < (w2.alloc (.cells #[.bool b1, .slice A2 k2 c2, .slice A2' k2' c2'] 28)).heap.size := by simp
    generalize w2.alloc (.cells #[.bool b1, .slice A2 k2 c2, .slice A2' k2' c2'] 28) = W2 at *
    generalize w2.heap.size = B2 at *
    have HG2 := Lib.hid (fun (w' : World) (h : Ext W2 w') => hG2.below h)
    have HC2 := Lib.hid (fun (w' : World) (h : Ext W2 w') => And.intro (h2.below h) (g2.below h))
    clear hG2 h2 g2 y2 hsz2
    go_wp2_with fail
    refine (H3.out _ (HT.out _ (V0.trans (Y1.trans Y2)))).mono ?_
    rintro e w3 ⟨A3, k3, c3, A3', k3', c3', rfl, h3, g3, y3, n3, n3'⟩
    clear n3 n3'
    go_upto_region 6 with (fail)
    have hG3 := FBox.new w3 (.bool b3) (.slice A3 k3 c3) (.slice A3' k3' c3') 28
    have Y3 : Ext W2 (w3.alloc (.cells #[.bool b3, .slice A3 k3 c3, .slice A3' k3' c3'] 28)) := ext_alloc y3 _
    have h3 := h3.below (ext_alloc (Below.refl _ _) (.cells #[.bool b3, .slice A3 k3 c3, .slice A3' k3' c3'] 28))
    have g3 := g3.below (ext_alloc (Below.refl _ _) (.cells #[.bool b3, .slice A3 k3 c3, .slice A3' k3' c3'] 28))
    have hsz3 : w3.heap.size < (w3.alloc (.cells #[.bool b3, .slice A3 k3 c3, .slice A3' k3' c3'] 28)).heap.size := by simp
    generalize w3.alloc (.cells #[.bool b3, .slice A3 k3 c3, .slice A3' k3' c3'] 28) = W3 at *
    generalize w3.heap.size = B3 at *
    have HG3 := Lib.hid (fun (w' : World) (h : Ext W3 w') => hG3.below h)
    have HC3 := Lib.hid (fun (w' : World) (h : Ext W3 w') => And.intro (h3.below h) (g3.below h))
    clear hG3 h3 g3 y3 hsz3
    go_wp2_with fail
    refine (H4.out _).mono ?_
    rintro e w4 ⟨A4, k4, c4, A4', k4', c4', rfl, h4, g4, y4, n4, n4'⟩
    clear n4 n4'
    go_upto_region 7 with (fail)
    have hG4 := FBox.new w4 (.bool b3) (.slice A4 k4 c4) (.slice A4' k4' c4') 28
    have Y4 : Ext W3 (w4.alloc (.cells #[.bool b3, .slice A4 k4 c4, .slice A4' k4' c4'] 28)) := ext_alloc y4 _
    have h4 := h4.below (ext_alloc (Below.refl _ _) (.cells #[.bool b3, .slice A4 k4 c4, .slice A4' k4' c4'] 28))
    have g4 := g4.below (ext_alloc (Below.refl _ _) (.cells #[.bool b3, .slice A4 k4 c4, .slice A4' k4' c4'] 28))
    have hsz4 : w4.heap.size < (w4.alloc (.cells #[.bool b3, .slice A4 k4 c4, .slice A4' k4' c4'] 28)).heap.size := by simp
    generalize w4.alloc (.cells #[.bool b3, .slice A4 k4 c4, .slice A4' k4' c4'] 28) = W4 at *
    generalize w4.heap.size = B4 at *
    have HG4 := Lib.hid (fun (w' : World) (h : Ext W4 w') => hG4.below h)
    have HC4 := Lib.hid (fun (w' : World) (h : Ext W4 w') => And.intro (h4.below h) (g4.below h))
    clear hG4 h4 g4 y4 hsz4
    have E14 : Ext W0 W4 := Y1.trans (Y2.trans (Y3.trans Y4))
    go_wp2_with fail
    refine (H5.out _ (HT.out _ (V0.trans E14)) (HV.out _ (V0.trans E14))).mono ?_
    rintro e w5 ⟨A5, k5, c5, A5', k5', c5', rfl, h5, g5, y5, n5, n5'⟩
    clear n5 n5'
    go_upto_region 8 with (fail)
    have hG5 := FBox.new w5 (.bool b5) (.slice A5 k5 c5) (.slice A5' k5' c5') 28
    have Y5 : Ext W4 (w5.alloc (.cells #[.bool b5, .slice A5 k5 c5, .slice A5' k5' c5'] 28)) := ext_alloc y5 _
    have h5 := h5.below (ext_alloc (Below.refl _ _) (.cells #[.bool b5, .slice A5 k5 c5, .slice A5' k5' c5'] 28))
    have g5 := g5.below (ext_alloc (Below.refl _ _) (.cells #[.bool b5, .slice A5 k5 c5, .slice A5' k5' c5'] 28))
    have hsz5 : w5.heap.size < (w5.alloc (.cells #[.bool b5, .slice A5 k5 c5, .slice A5' k5' c5'] 28)).heap.size := by simp
    generalize w5.alloc (.cells #[.bool b5, .slice A5 k5 c5, .slice A5' k5' c5'] 28) = W5 at *
    generalize w5.heap.size = B5 at *
    have HG5 := Lib.hid (fun (w' : World) (h : Ext W5 w') => hG5.below h)
    have HC5 := Lib.hid (fun (w' : World) (h : Ext W5 w') => And.intro (h5.below h) (g5.below h))
    clear hG5 h5 g5 y5 hsz5
    go_wp2_with fail
    refine (H6.out _ (HV.out _ (V0.trans (E14.trans Y5)))).mono ?_
    rintro e w6 ⟨A6, k6, c6, A6', k6', c6', rfl, h6, g6, y6, n6, n6'⟩
    clear n6 n6'
    go_upto_region 9 with (fail)
    have hG6 := FBox.new w6 (.bool b5) (.slice A6 k6 c6) (.slice A6' k6' c6') 28
    have Y6 : Ext W5 (w6.alloc (.cells #[.bool b5, .slice A6 k6 c6, .slice A6' k6' c6'] 28)) := ext_alloc y6 _
    have h6 := h6.below (ext_alloc (Below.refl _ _) (.cells #[.bool b5, .slice A6 k6 c6, .slice A6' k6' c6'] 28))
    have g6 := g6.below (ext_alloc (Below.refl _ _) (.cells #[.bool b5, .slice A6 k6 c6, .slice A6' k6' c6'] 28))
    have hsz6 : w6.heap.size < (w6.alloc (.cells #[.bool b5, .slice A6 k6 c6, .slice A6' k6' c6'] 28)).heap.size := by simp
    generalize w6.alloc (.cells #[.bool b5, .slice A6 k6 c6, .slice A6' k6' c6'] 28) = W6 at *
    generalize w6.heap.size = B6 at *
    have HG6 := Lib.hid (fun (w' : World) (h : Ext W6 w') => hG6.below h)
    have HC6 := Lib.hid (fun (w' : World) (h : Ext W6 w') => And.intro (h6.below h) (g6.below h))
    clear hG6 h6 g6 y6 hsz6
    have E5 : Ext W5 W6 := Y6
    have E4 : Ext W4 W6 := Y5.trans E5
    have E3 : Ext W3 W6 := Y4.trans E4
    have E2 : Ext W2 W6 := Y3.trans E3
    have E1 : Ext W1 W6 := Y2.trans E2
    have HC := Lib.hid (fun (w' : World) (h : Ext W6 w') => (⟨HG1.out _ (E1.trans h), HG2.out _ (E2.trans h), HG3.out _ (E3.trans h), HG4.out _ (E4.trans h), HG5.out _ (E5.trans h), HG6.out _ h⟩ : _ ∧ _ ∧ _ ∧ _ ∧ _ ∧ _))
    obtain ⟨⟨p0, p1, p2, _, _, _⟩, ⟨q0, q1, q2, _, _, _⟩, ⟨r0, r1, r2, _, _, _⟩, ⟨s0, s1, s2, _, _, _⟩, ⟨t0, t1, t2, _, _, _⟩, u0, u1, u2, _, _, _⟩ := HC.out _ (Below.refl _ _)
    have f0 : Ext W6 W6 := Below.refl _ _
    go_wp2_with (first
      | (go_at_call 11; (with_reducible refine (bfrac_eq (HC1.out _ (E1.trans f0)).1 (HC1.out _ (E1.trans f0)).2 (HC2.out _ (E2.trans f0)).1 (HC2.out _ (E2.trans f0)).2).mono ?_); rintro _ s1' ⟨rfl, z5⟩; have f0 := Ext.trans f0 z5; obtain ⟨⟨p0, p1, p2, _, _, _⟩, ⟨q0, q1, q2, _, _, _⟩, ⟨r0, r1, r2, _, _, _⟩, ⟨s0, s1, s2, _, _, _⟩, ⟨t0, t1, t2, _, _, _⟩, u0, u1, u2, _, _, _⟩ := HC.out _ f0)
      | (go_at_call 11; (with_reducible refine (bfrac_eq (HC3.out _ (E3.trans f0)).1 (HC3.out _ (E3.trans f0)).2 (HC4.out _ (E4.trans f0)).1 (HC4.out _ (E4.trans f0)).2).mono ?_); rintro _ s1' ⟨rfl, z5⟩; have f0 := Ext.trans f0 z5; obtain ⟨⟨p0, p1, p2, _, _, _⟩, ⟨q0, q1, q2, _, _, _⟩, ⟨r0, r1, r2, _, _, _⟩, ⟨s0, s1, s2, _, _, _⟩, ⟨t0, t1, t2, _, _, _⟩, u0, u1, u2, _, _, _⟩ := HC.out _ f0)
      | (go_at_call 11; (with_reducible refine (bfrac_eq (HC5.out _ (E5.trans f0)).1 (HC5.out _ (E5.trans f0)).2 (HC6.out _ f0).1 (HC6.out _ f0).2).mono ?_); rintro _ s1' ⟨rfl, z5⟩; have f0 := Ext.trans f0 z5))
    go_ret
    exact ⟨rfl, V0.trans (Y1.trans (E1.trans f0))⟩
  · have hl2 : (20 : Int) < (zs.length : Int) := by omega
    have hl3 : 20 < zs.length := by omega
    go_enter Tryz.func3, Tryz.ntmps3
    go_wp2_with fail
    refine (oawake ht).mono ?_
    rintro e W0 ⟨rfl, V0⟩
    clear ht
    go_wp2_with fail
    refine (oawake (HT.out _ V0)).mono ?_
    rintro e W2 ⟨rfl, V2⟩
    go_wp2
    go_ret
    exact ⟨rfl, V0.trans V2⟩

end Go.Proofs.YtglphodaoafdmaaGreatDoor
