/- The walk of ConfidenceRatios. -/
import Derived.Test.YtjdpkmngboiemaaDoorConL
import Derived.Test.YtjdpkmngboiemaaDoorWf
set_option linter.unusedVariables false
set_option linter.unusedSimpArgs false
set_option maxRecDepth 100000
namespace Go.Proofs.YtjdpkmngboiemaaDoor
open Go.RowKit Num

theorem cell_away3 {w : World} {b b' i : Nat} {u : Value} (h : w.cell? ⟨b', i, none⟩ = some u) (hne : b ≠ b') (x y z : Value) : (((w.setCell ⟨b, 0, none⟩ x).setCell ⟨b, 1, none⟩ y).setCell ⟨b, 2, none⟩ z).cell? ⟨b', i, none⟩ = some u := by
  have ne : ∀ j : Nat, (⟨b, j, none⟩ : Addr) ≠ ⟨b', i, none⟩ := fun j e => by injection e with e1; exact hne e1
  rw [World.cell?_setCell_other _ _ _ _ (ne 2), World.cell?_setCell_other _ _ _ _ (ne 1), World.cell?_setCell_other _ _ _ _ (ne 0)]
  exact h
theorem ratio_prog {N E X Y : Nat} (h1 : 1 ≤ N ∧ N ≤ 24) (h2 : 1 ≤ E ∧ E ≤ N) (h3 : 1 ≤ X ∧ X ≤ 60) (h4 : 1 ≤ Y ∧ Y ≤ 60) :
    ∃ (b : Bool) (m k : Nat) (er : Int), (Y < E → er = 12) ∧ (E ≤ Y → er = 0 ∧ b = decide (pch N X E / pch N Y E < 0) ∧ m = (pch N X E / pch N Y E).num.natAbs ∧ k = (pch N X E / pch N Y E).den) ∧
      ∀ w, Calls Tryd.prog 24 #[.int .i64 N, .int .i64 E, .int .i64 X, .int .i64 Y] w (GivesP w b m k er) := by
  have hpc : ∀ D : Nat, pchI N D (E : Int) = pch N D E := fun D => by unfold pchI; rw [if_neg (by omega), Int.toNat_natCast]
  have hz := pch_zero_iff (n := N) (D := Y) h2.1 h2.2 (by omega)
  by_cases h : Y < E
  · exact ⟨_, _, _, _, fun _ => rfl, fun h' => by omega, fun w => kratio_z h1 h2 h3 h4 (by rw [hpc]; exact hz.2 h)⟩
  · have hne : pchI N Y (E : Int) ≠ 0 := by rw [hpc]; exact fun h' => h (hz.1 h')
    refine ⟨_, _, _, _, fun h' => absurd h' h, fun _ => ⟨rfl, rfl, rfl, rfl⟩, fun w => ?_⟩
    have h0 := kratio_ok (w := w) h1 h2 h3 h4 hne
    rw [hpc, hpc] at h0
    exact h0
theorem FB.quot {p q : Rat} {L M : Nat} (hp : FB p L) (hq : FB q M) (hL : 1 ≤ L) (hM : 1 ≤ M) : FB (p / q) (L + M) := by
  rw [Rat.div_def]
  exact FB.mul hp (FB.inv hq hM) hL

set_option maxHeartbeats 8000000 in
theorem law_CRatios {v0 v1 : Value} {z0 : Int × Int × Int} {z1 : Int × Int} {w : World} (h0 : v0 = .agg #[.int .i64 z0.1, .int .i64 z0.2.1, .int .i64 z0.2.2] ∧ (Lit.int .i64 z0.1).wf = true ∧ (Lit.int .i64 z0.2.1).wf = true ∧ (Lit.int .i64 z0.2.2).wf = true) (h1 : v1 = .agg #[.int .i64 z1.1, .int .i64 z1.2] ∧ (Lit.int .i64 z1.1).wf = true ∧ (Lit.int .i64 z1.2).wf = true) (ht : Tab10 w) :
    Calls Tryd.prog 6 #[v0, v1] w (fun e w' => e = .returned (.bool true) ∧ Ext w w') := by
  obtain ⟨a, b, c⟩ := z0
  obtain ⟨rfl, wa, wb, wc⟩ := h0
  have hA := i64_of_wf wa
  have hB := i64_of_wf wb
  have hC := i64_of_wf wc
  clear wa wb wc
  obtain ⟨x, y⟩ := z1
  obtain ⟨rfl, wx, wy⟩ := h1
  have hX := i64_of_wf wx
  have hY := i64_of_wf wy
  clear wx wy
  dsimp only at hX hY ⊢
  have HT := Lib.hid (fun (w' : World) (h : Ext w w') => ht.ext h)
  clear ht
  go_enter Tryd.func6, Tryd.ntmps6
  go_upto_region 1 with (fail)
  have hB0 := (FBox.new w (.int .i64 a) (.int .i64 b) (.int .i64 c) 42).below (ext_alloc (Below.refl _ _) (.cells #[.int .i64 x, .int .i64 y] 52))
  have hB10 : ((w.alloc (.cells #[.int .i64 a, .int .i64 b, .int .i64 c] 42)).alloc (.cells #[.int .i64 x, .int .i64 y] 52)).cell? ⟨w.heap.size + 1, 0, none⟩ = some (.int .i64 x) := by simp [go_sem]
  have hB11 : ((w.alloc (.cells #[.int .i64 a, .int .i64 b, .int .i64 c] 42)).alloc (.cells #[.int .i64 x, .int .i64 y] 52)).cell? ⟨w.heap.size + 1, 1, none⟩ = some (.int .i64 y) := by simp [go_sem]
  have x0 : Ext w ((w.alloc (.cells #[.int .i64 a, .int .i64 b, .int .i64 c] 42)).alloc (.cells #[.int .i64 x, .int .i64 y] 52)) := ext_alloc (ext_alloc (Below.refl _ _) _) _
  have hs0 : w.heap.size + 1 + 1 ≤ ((w.alloc (.cells #[.int .i64 a, .int .i64 b, .int .i64 c] 42)).alloc (.cells #[.int .i64 x, .int .i64 y] 52)).heap.size := by simp
  generalize ((w.alloc (.cells #[.int .i64 a, .int .i64 b, .int .i64 c] 42)).alloc (.cells #[.int .i64 x, .int .i64 y] 52)) = W0 at *
  have HB0 := Lib.hid (fun (w' : World) (h : Ext W0 w') => hB0.below h)
  obtain ⟨c00, c01, c02, d00, d01, d02⟩ := hB0
  have HB1 := Lib.hid (fun (w' : World) (h : Ext W0 w') => (⟨(h.cell (p := ⟨w.heap.size + 1, 0, none⟩) (World.block_lt_of_cell? _ _ hB10)).trans hB10, (h.cell (p := ⟨w.heap.size + 1, 1, none⟩) (World.block_lt_of_cell? _ _ hB11)).trans hB11⟩ : w'.cell? ⟨w.heap.size + 1, 0, none⟩ = some (.int .i64 x) ∧ w'.cell? ⟨w.heap.size + 1, 1, none⟩ = some (.int .i64 y)))
  clear hB10 hB11
  have HE := Lib.hid x0
  clear x0
  have f0 : Ext W0 W0 := Below.refl _ _
  go_wp2_with fail
  refine (kawake (HT.out _ HE.out)).mono ?_
  rintro e U1 ⟨rfl, y1⟩
  obtain ⟨c00, c01, c02, _, _, _⟩ := HB0.out _ y1
  go_wp2_with fail
  refine (lsample hA hB hC).mono ?_
  rintro e U3 ⟨N, E, M, hS, rfl, x3⟩
  have y3 := Ext.trans y1 x3
  obtain ⟨c00, c01, c02, d00, d01, d02⟩ := HB0.out _ y3
  go_upto_region 4 with (fail)
  have Q10 := cell_away3 (HB1.out _ y3).1 (show w.heap.size ≠ w.heap.size + 1 from by omega) (.int .i64 N) (.int .i64 E) (.int .i64 M)
  have Q11 := cell_away3 (HB1.out _ y3).2 (show w.heap.size ≠ w.heap.size + 1 from by omega) (.int .i64 N) (.int .i64 E) (.int .i64 M)
  have P0 := FBox.put (HB0.out _ y3) (.int .i64 N) (.int .i64 E) (.int .i64 M)
  have XV := ext_put (b := w.heap.size) (HE.out.trans y3) (by omega) (.int .i64 N) (.int .i64 E) (.int .i64 M)
  generalize ((U3.setCell ⟨w.heap.size, 0, none⟩ (.int .i64 N)).setCell ⟨w.heap.size, 1, none⟩ (.int .i64 E)).setCell ⟨w.heap.size, 2, none⟩ (.int .i64 M) = V at *
  clear c00 c01 c02 d00 d01 d02
  have HP0 := Lib.hid (fun (w' : World) (h : Ext V w') => P0.below h)
  clear P0
  obtain ⟨sN, sE, sM⟩ := hS
  have HXV := Lib.hid XV
  have HQ := Lib.hid (fun (w' : World) (h : Ext V w') => (⟨(h.cell (p := ⟨w.heap.size + 1, 0, none⟩) (World.block_lt_of_cell? _ _ Q10)).trans Q10, (h.cell (p := ⟨w.heap.size + 1, 1, none⟩) (World.block_lt_of_cell? _ _ Q11)).trans Q11⟩ : w'.cell? ⟨w.heap.size + 1, 0, none⟩ = some (.int .i64 x) ∧ w'.cell? ⟨w.heap.size + 1, 1, none⟩ = some (.int .i64 y)))
  have HS := HQ
  clear Q10 Q11
  go_upto_region 4 with (fail)
  refine wp_region_G (fun w' => Ext V w') [9] (by kernel_rfl) ?_
  have gS : Ext V V.drew := (Below.refl _ _).drew
  refine wpAnyG_take 0 (v := ?_) rfl (by kernel_rfl) (by kernel_rfl) (by kernel_rfl) (by kernel_rfl) (by rfl) (by kernel_rfl) (fun _ _ _ h => h) (by rfl) (fun w' hw' => ?_) gS ?_
  rotate_left
  focus (go_simp; (try with_reducible rfl); done)
  (try simp only [Act.put, List.getElem_toArray, List.getElem_cons_succ, List.getElem_cons_zero, List.setIfInBounds_toArray, List.set_cons_zero, List.set_cons_succ])
  refine wpAnyG_take 1 (v := ?_) rfl (by kernel_rfl) (by kernel_rfl) (by kernel_rfl) (by kernel_rfl) (by rfl) (by kernel_rfl) (fun _ _ _ h => h) (by rfl) (fun w' hw' => ?_) gS ?_
  rotate_left
  focus (have hh := HS.out _ hw'; go_split_ands; go_simp; (try with_reducible rfl); done)
  (try simp only [Act.put, List.getElem_toArray, List.getElem_cons_succ, List.getElem_cons_zero, List.setIfInBounds_toArray, List.set_cons_zero, List.set_cons_succ])
  refine wpAnyG_take 4 (v := ?_) rfl (by kernel_rfl) (by kernel_rfl) (by kernel_rfl) (by kernel_rfl) (by rfl) (by kernel_rfl) (fun _ _ _ h => h) (by rfl) (fun w' hw' => ?_) gS ?_
  rotate_left
  focus (go_simp; (try with_reducible rfl); done)
  (try simp only [Act.put, List.getElem_toArray, List.getElem_cons_succ, List.getElem_cons_zero, List.setIfInBounds_toArray, List.set_cons_zero, List.set_cons_succ])
  refine wpAnyG_take 5 (v := ?_) rfl (by kernel_rfl) (by kernel_rfl) (by kernel_rfl) (by kernel_rfl) (by rfl) (by kernel_rfl) (fun _ _ _ h => h) (by rfl) (fun w' hw' => ?_) gS ?_
  rotate_left
  focus (have hh := HS.out _ hw'; go_split_ands; go_simp; (try with_reducible rfl); done)
  (try simp only [Act.put, List.getElem_toArray, List.getElem_cons_succ, List.getElem_cons_zero, List.setIfInBounds_toArray, List.set_cons_zero, List.set_cons_succ])
  refine wpAnyG_one 2 (by kernel_rfl) rfl (by rfl) (fun K hK => ?_)
  go_simp
  go_at_call 23
  refine (mod_i (b := 60) (by omega) (by omega) hX).mono ?_
  rintro _ s1 ⟨i, hi, rfl, rfl⟩
  obtain ⟨A, hA'⟩ : ∃ A : Nat, A = i + 1 := ⟨_, rfl⟩
  have hwA : IntKind.i64.wrap (1 + (i : Int)) = (A : Int) := by rw [wrap_in (by omega)]; omega
  have hA60 : 1 ≤ A ∧ A ≤ 60 := by omega
  clear hi hA'
  (try go_wp2_with fail)
  refine hK.out _ _ (fun _ => gS) ?_
  clear hK K
  (try simp only [Act.put, List.getElem_toArray, List.getElem_cons_succ, List.getElem_cons_zero, List.setIfInBounds_toArray, List.set_cons_zero, List.set_cons_succ])
  refine wpAnyG_take 3 (v := ?_) rfl (by kernel_rfl) (by kernel_rfl) (by kernel_rfl) (by kernel_rfl) (by rfl) (by kernel_rfl) (fun _ _ _ h => h) (by rfl) (fun w' hw' => ?_) gS ?_
  rotate_left
  focus (go_simp; (try with_reducible rfl); done)
  (try simp only [Act.put, List.getElem_toArray, List.getElem_cons_succ, List.getElem_cons_zero, List.setIfInBounds_toArray, List.set_cons_zero, List.set_cons_succ])
  refine wpAnyG_one 6 (by kernel_rfl) rfl (by rfl) (fun K hK => ?_)
  go_simp
  go_at_call 23
  refine (mod_i (b := 60) (by omega) (by omega) hY).mono ?_
  rintro _ s2 ⟨j, hj, rfl, rfl⟩
  obtain ⟨B, hB'⟩ : ∃ B : Nat, B = j + 1 := ⟨_, rfl⟩
  have hwB : IntKind.i64.wrap (1 + (j : Int)) = (B : Int) := by rw [wrap_in (by omega)]; omega
  have hB60 : 1 ≤ B ∧ B ≤ 60 := by omega
  clear hj hB'
  have g4 := gS
  (try go_wp2_with fail)
  refine hK.out _ _ (fun _ => gS) ?_
  clear hK K
  (try simp only [Act.put, List.getElem_toArray, List.getElem_cons_succ, List.getElem_cons_zero, List.setIfInBounds_toArray, List.set_cons_zero, List.set_cons_succ])
  refine wpAnyG_take 7 (v := ?_) rfl (by kernel_rfl) (by kernel_rfl) (by kernel_rfl) (by kernel_rfl) (by rfl) (by kernel_rfl) (fun _ _ _ h => h) (by rfl) (fun w' hw' => ?_) gS ?_
  rotate_left
  focus (go_simp; (try with_reducible rfl); done)
  (try simp only [Act.put, List.getElem_toArray, List.getElem_cons_succ, List.getElem_cons_zero, List.setIfInBounds_toArray, List.set_cons_zero, List.set_cons_succ])
  refine wpAnyG_take 8 (v := ?_) rfl (by kernel_rfl) (by kernel_rfl) (by kernel_rfl) (by kernel_rfl) (by rfl) (by kernel_rfl) (fun _ _ _ h => h) (by rfl) (fun w' hw' => ?_) gS ?_
  rotate_left
  focus (go_simp; (try with_reducible rfl); done)
  (try simp only [Act.put, List.getElem_toArray, List.getElem_cons_succ, List.getElem_cons_zero, List.setIfInBounds_toArray, List.set_cons_zero, List.set_cons_succ])
  refine wpAnyG_one 9 (by kernel_rfl) rfl (by rfl) (fun K hK => ?_)
  go_simp
  refine hK.out _ _ (fun h => absurd h (by decide)) ?_
  clear hK K
  (try simp only [Act.put, List.getElem_toArray, List.getElem_cons_succ, List.getElem_cons_zero, List.setIfInBounds_toArray, List.set_cons_zero, List.set_cons_succ])
  refine wpAnyG_done (by kernel_rfl) ?_ _
  obtain ⟨b1, m1, k1, e1, n1, o1, hr1⟩ := ratio_prog sN sE hA60 hB60
  obtain ⟨b2, m2, k2, e2, n2, o2, hr2⟩ := ratio_prog sN sE hB60 sM
  obtain ⟨b3, m3, k3, e3, n3, o3, hr3⟩ := ratio_prog sN sE hA60 sM
  have HR1 := Lib.hid hr1
  have HR2 := Lib.hid hr2
  have HR3 := Lib.hid hr3
  have HN1 := Lib.hid n1
  have HN2 := Lib.hid n2
  have HN3 := Lib.hid n3
  have HO1 := Lib.hid o1
  have HO2 := Lib.hid o2
  have HO3 := Lib.hid o3
  clear hr1 hr2 hr3 n1 n2 n3 o1 o2 o3
  obtain ⟨c00, c01, c02, _, _, _⟩ := HP0.out _ g4
  go_wp2_with fail
  refine (HR1.out _).mono ?_
  rintro e w1 ⟨A1, k1, c1, A1', k1', c1', rfl, h1, g1, y1, n1, n1'⟩
  clear n1 n1'
  go_upto_region 6 with (fail)
  have hG1 := FBox.new w1 (.bool b1) (.slice A1 k1 c1) (.slice A1' k1' c1') 27
  have Y1 : Ext V.drew (w1.alloc (.cells #[.bool b1, .slice A1 k1 c1, .slice A1' k1' c1'] 27)) := ext_alloc y1 _
  have h1 := h1.below (ext_alloc (Below.refl _ _) (.cells #[.bool b1, .slice A1 k1 c1, .slice A1' k1' c1'] 27))
  have g1 := g1.below (ext_alloc (Below.refl _ _) (.cells #[.bool b1, .slice A1 k1 c1, .slice A1' k1' c1'] 27))
  have hsz1 : w1.heap.size < (w1.alloc (.cells #[.bool b1, .slice A1 k1 c1, .slice A1' k1' c1'] 27)).heap.size := by simp
  generalize w1.alloc (.cells #[.bool b1, .slice A1 k1 c1, .slice A1' k1' c1'] 27) = W1 at *
  generalize w1.heap.size = B1 at *
  have HG1 := Lib.hid (fun (w' : World) (h : Ext W1 w') => hG1.below h)
  have HC1 := Lib.hid (fun (w' : World) (h : Ext W1 w') => And.intro (h1.below h) (g1.below h))
  clear hG1 h1 g1 y1 hsz1
  obtain ⟨c00, c01, c02, _, _, _⟩ := HP0.out _ (g4.trans Y1)
  go_wp2_with fail
  refine (HR2.out _).mono ?_
  rintro e w2 ⟨A2, k2, c2, A2', k2', c2', rfl, h2, g2, y2, n2, n2'⟩
  clear n2 n2'
  go_upto_region 7 with (fail)
  have hG2 := FBox.new w2 (.bool b2) (.slice A2 k2 c2) (.slice A2' k2' c2') 27
  have Y2 : Ext W1 (w2.alloc (.cells #[.bool b2, .slice A2 k2 c2, .slice A2' k2' c2'] 27)) := ext_alloc y2 _
  have h2 := h2.below (ext_alloc (Below.refl _ _) (.cells #[.bool b2, .slice A2 k2 c2, .slice A2' k2' c2'] 27))
  have g2 := g2.below (ext_alloc (Below.refl _ _) (.cells #[.bool b2, .slice A2 k2 c2, .slice A2' k2' c2'] 27))
  have hsz2 : w2.heap.size < (w2.alloc (.cells #[.bool b2, .slice A2 k2 c2, .slice A2' k2' c2'] 27)).heap.size := by simp
  generalize w2.alloc (.cells #[.bool b2, .slice A2 k2 c2, .slice A2' k2' c2'] 27) = W2 at *
  generalize w2.heap.size = B2 at *
  have HG2 := Lib.hid (fun (w' : World) (h : Ext W2 w') => hG2.below h)
  have HC2 := Lib.hid (fun (w' : World) (h : Ext W2 w') => And.intro (h2.below h) (g2.below h))
  clear hG2 h2 g2 y2 hsz2
  obtain ⟨c00, c01, c02, _, _, _⟩ := HP0.out _ (g4.trans (Y1.trans Y2))
  go_wp2_with fail
  refine (HR3.out _).mono ?_
  rintro e w3 ⟨A3, k3, c3, A3', k3', c3', rfl, h3, g3, y3, n3, n3'⟩
  clear n3 n3'
  go_upto_region 8 with (fail)
  have hG3 := FBox.new w3 (.bool b3) (.slice A3 k3 c3) (.slice A3' k3' c3') 27
  have Y3 : Ext W2 (w3.alloc (.cells #[.bool b3, .slice A3 k3 c3, .slice A3' k3' c3'] 27)) := ext_alloc y3 _
  have h3 := h3.below (ext_alloc (Below.refl _ _) (.cells #[.bool b3, .slice A3 k3 c3, .slice A3' k3' c3'] 27))
  have g3 := g3.below (ext_alloc (Below.refl _ _) (.cells #[.bool b3, .slice A3 k3 c3, .slice A3' k3' c3'] 27))
  have hsz3 : w3.heap.size < (w3.alloc (.cells #[.bool b3, .slice A3 k3 c3, .slice A3' k3' c3'] 27)).heap.size := by simp
  generalize w3.alloc (.cells #[.bool b3, .slice A3 k3 c3, .slice A3' k3' c3'] 27) = W3 at *
  generalize w3.heap.size = B3 at *
  have HG3 := Lib.hid (fun (w' : World) (h : Ext W3 w') => hG3.below h)
  have HC3 := Lib.hid (fun (w' : World) (h : Ext W3 w') => And.intro (h3.below h) (g3.below h))
  clear hG3 h3 g3 y3 hsz3
  have YT := g4.trans (Y1.trans (Y2.trans Y3))
  obtain ⟨c00, c01, c02, _, _, _⟩ := HP0.out _ YT
  by_cases hBE : B < E
  · obtain rfl := HN1.out hBE
    have d1 : decide ((B : Int) < (E : Int)) = true := decide_eq_true (by omega)
    go_wp2
    go_ret
    exact ⟨rfl, HXV.out.trans YT⟩
  · have d1 : decide ((B : Int) < (E : Int)) = false := decide_eq_false (by omega)
    obtain ⟨rfl, hb1, rfl, rfl⟩ := HO1.out (by omega)
    by_cases hME : M < E
    · obtain rfl := HN2.out hME
      obtain rfl := HN3.out hME
      have d2 : decide ((M : Int) < (E : Int)) = true := decide_eq_true (by omega)
      go_wp2
      go_ret
      exact ⟨rfl, HXV.out.trans YT⟩
    · have d2 : decide ((M : Int) < (E : Int)) = false := decide_eq_false (by omega)
      obtain ⟨rfl, hb2, rfl, rfl⟩ := HO2.out (by omega)
      obtain ⟨rfl, hb3, rfl, rfl⟩ := HO3.out (by omega)
      have HB1' := Lib.hid hb1
      have HB2' := Lib.hid hb2
      have HB3' := Lib.hid hb3
      clear hb1 hb2 hb3
      have hzB : pch N B E ≠ 0 := fun h => hBE ((pch_zero_iff sE.1 sE.2 (by omega)).1 h)
      have hFB : ∀ D : Nat, D ≤ 60 → FB (pch N D E) 130 := fun D hD => by
        have h := pchI_fbC (n := N) (D := D) (by omega) hD (E : Int)
        unfold pchI at h
        rwa [if_neg (by omega), Int.toNat_natCast] at h
      have HF1 := Lib.hid (FB.quot (hFB A hA60.2) (hFB B hB60.2) (by omega) (by omega))
      have HF2 := Lib.hid (FB.quot (hFB B hB60.2) (hFB M sM.2) (by omega) (by omega))
      have HF3 := Lib.hid (FB.quot (hFB A hA60.2) (hFB M sM.2) (by omega) (by omega))
      have HEQ := Lib.hid (show cmpQ (pch N A E / pch N B E * (pch N B E / pch N M E)) (pch N A E / pch N M E) = 0 from (cmpQ_zero _ _).2 (by
        rw [Rat.div_def, Rat.div_def, Rat.div_def]
        generalize pch N A E = pa
        generalize pch N B E = pb at hzB ⊢
        generalize (pch N M E)⁻¹ = pm
        have := Rat.inv_mul_cancel pb hzB
        grind))
      have HA1 := Lib.hid (fun (w' : World) (h : Ext W3 w') => (show AnyF w' _ _ _ (pch N A E / pch N B E) 260 from FracV.any (show FracV w' b1 (.slice A1 k1 c1) (.slice A1' k1' c1') (pch N A E / pch N B E) from ⟨HB1'.out, (HC1.out _ (Y2.trans (Y3.trans h))).1, (HC1.out _ (Y2.trans (Y3.trans h))).2⟩) HF1.out (by omega)))
      have HA2 := Lib.hid (fun (w' : World) (h : Ext W3 w') => (show AnyF w' _ _ _ (pch N B E / pch N M E) 260 from FracV.any (show FracV w' b2 (.slice A2 k2 c2) (.slice A2' k2' c2') (pch N B E / pch N M E) from ⟨HB2'.out, (HC2.out _ (Y3.trans h)).1, (HC2.out _ (Y3.trans h)).2⟩) HF2.out (by omega)))
      have HA3 := Lib.hid (fun (w' : World) (h : Ext W3 w') => (show AnyF w' _ _ _ (pch N A E / pch N M E) 260 from FracV.any (show FracV w' b3 (.slice A3 k3 c3) (.slice A3' k3' c3') (pch N A E / pch N M E) from ⟨HB3'.out, (HC3.out _ h).1, (HC3.out _ h).2⟩) HF3.out (by omega)))
      have HS := Lib.hid (fun (w' : World) (h : Ext W3 w') => (⟨⟨(HG1.out _ (Y2.trans (Y3.trans h))).1, (HG1.out _ (Y2.trans (Y3.trans h))).2.1, (HG1.out _ (Y2.trans (Y3.trans h))).2.2.1⟩, ⟨(HG2.out _ (Y3.trans h)).1, (HG2.out _ (Y3.trans h)).2.1, (HG2.out _ (Y3.trans h)).2.2.1⟩, (HG3.out _ h).1, (HG3.out _ h).2.1, (HG3.out _ h).2.2.1⟩ : (_ ∧ _ ∧ _) ∧ (_ ∧ _ ∧ _) ∧ _ ∧ _ ∧ _))
      obtain ⟨qa, hqa⟩ : ∃ qa, qa = pch N A E / pch N B E := ⟨_, rfl⟩
      obtain ⟨qb, hqb⟩ : ∃ qb, qb = pch N B E / pch N M E := ⟨_, rfl⟩
      obtain ⟨qc, hqc⟩ : ∃ qc, qc = pch N A E / pch N M E := ⟨_, rfl⟩
      rw [← hqa, ← hqb, ← hqc] at HEQ
      rw [← hqa] at HF1 HA1
      rw [← hqb] at HF2 HA2
      rw [← hqc] at HF3 HA3
      have HFM := Lib.hid (FB.mul HF1.out HF2.out (by omega))
      clear hzB hFB hqa hqb hqc
      go_upto_region 12 with (fail)
      refine wp_region_G (fun w' => Ext W3 w') [18] (by kernel_rfl) ?_
      have gS : Ext W3 W3.drew := (Below.refl _ _).drew
      refine wpAnyG_take 0 (v := ?_) rfl (by kernel_rfl) (by kernel_rfl) (by kernel_rfl) (by kernel_rfl) (by rfl) (by kernel_rfl) (fun _ _ _ h => h) (by rfl) (fun w' hw' => ?_) gS ?_
      rotate_left
      focus (go_simp; (try with_reducible rfl); done)
      (try simp only [Act.put, List.getElem_toArray, List.getElem_cons_succ, List.getElem_cons_zero, List.setIfInBounds_toArray, List.set_cons_zero, List.set_cons_succ])
      refine wpAnyG_take 1 (v := ?_) rfl (by kernel_rfl) (by kernel_rfl) (by kernel_rfl) (by kernel_rfl) (by rfl) (by kernel_rfl) (fun _ _ _ h => h) (by rfl) (fun w' hw' => ?_) gS ?_
      rotate_left
      focus (go_simp; (try with_reducible rfl); done)
      (try simp only [Act.put, List.getElem_toArray, List.getElem_cons_succ, List.getElem_cons_zero, List.setIfInBounds_toArray, List.set_cons_zero, List.set_cons_succ])
      refine wpAnyG_take 2 (v := ?_) rfl (by kernel_rfl) (by kernel_rfl) (by kernel_rfl) (by kernel_rfl) (by rfl) (by kernel_rfl) (fun _ _ _ h => h) (by rfl) (fun w' hw' => ?_) gS ?_
      rotate_left
      focus (go_simp; (try with_reducible rfl); done)
      (try simp only [Act.put, List.getElem_toArray, List.getElem_cons_succ, List.getElem_cons_zero, List.setIfInBounds_toArray, List.set_cons_zero, List.set_cons_succ])
      refine wpAnyG_take 3 (v := ?_) rfl (by kernel_rfl) (by kernel_rfl) (by kernel_rfl) (by kernel_rfl) (by rfl) (by kernel_rfl) (fun _ _ _ h => h) (by rfl) (fun w' hw' => ?_) gS ?_
      rotate_left
      focus (go_simp; (try with_reducible rfl); done)
      (try simp only [Act.put, List.getElem_toArray, List.getElem_cons_succ, List.getElem_cons_zero, List.setIfInBounds_toArray, List.set_cons_zero, List.set_cons_succ])
      refine wpAnyG_take 4 (v := ?_) rfl (by kernel_rfl) (by kernel_rfl) (by kernel_rfl) (by kernel_rfl) (by rfl) (by kernel_rfl) (fun _ _ _ h => h) (by rfl) (fun w' hw' => ?_) gS ?_
      rotate_left
      focus (go_simp; (try with_reducible rfl); done)
      (try simp only [Act.put, List.getElem_toArray, List.getElem_cons_succ, List.getElem_cons_zero, List.setIfInBounds_toArray, List.set_cons_zero, List.set_cons_succ])
      refine wpAnyG_take 5 (v := ?_) rfl (by kernel_rfl) (by kernel_rfl) (by kernel_rfl) (by kernel_rfl) (by rfl) (by kernel_rfl) (fun _ _ _ h => h) (by rfl) (fun w' hw' => ?_) gS ?_
      rotate_left
      focus (go_simp; (try with_reducible rfl); done)
      (try simp only [Act.put, List.getElem_toArray, List.getElem_cons_succ, List.getElem_cons_zero, List.setIfInBounds_toArray, List.set_cons_zero, List.set_cons_succ])
      refine wpAnyG_take 6 (v := ?_) rfl (by kernel_rfl) (by kernel_rfl) (by kernel_rfl) (by kernel_rfl) (by rfl) (by kernel_rfl) (fun _ _ _ h => h) (by rfl) (fun w' hw' => ?_) gS ?_
      rotate_left
      focus (go_simp; (try with_reducible rfl); done)
      (try simp only [Act.put, List.getElem_toArray, List.getElem_cons_succ, List.getElem_cons_zero, List.setIfInBounds_toArray, List.set_cons_zero, List.set_cons_succ])
      refine wpAnyG_take 7 (v := ?_) rfl (by kernel_rfl) (by kernel_rfl) (by kernel_rfl) (by kernel_rfl) (by rfl) (by kernel_rfl) (fun _ _ _ h => h) (by rfl) (fun w' hw' => ?_) gS ?_
      rotate_left
      focus (go_simp; (try with_reducible rfl); done)
      (try simp only [Act.put, List.getElem_toArray, List.getElem_cons_succ, List.getElem_cons_zero, List.setIfInBounds_toArray, List.set_cons_zero, List.set_cons_succ])
      refine wpAnyG_take 8 (v := ?_) rfl (by kernel_rfl) (by kernel_rfl) (by kernel_rfl) (by kernel_rfl) (by rfl) (by kernel_rfl) (fun _ _ _ h => h) (by rfl) (fun w' hw' => ?_) gS ?_
      rotate_left
      focus (go_simp; (try with_reducible rfl); done)
      (try simp only [Act.put, List.getElem_toArray, List.getElem_cons_succ, List.getElem_cons_zero, List.setIfInBounds_toArray, List.set_cons_zero, List.set_cons_succ])
      refine wpAnyG_take 9 (v := ?_) rfl (by kernel_rfl) (by kernel_rfl) (by kernel_rfl) (by kernel_rfl) (by rfl) (by kernel_rfl) (fun _ _ _ h => h) (by rfl) (fun w' hw' => ?_) gS ?_
      rotate_left
      focus (go_simp; (try with_reducible rfl); done)
      (try simp only [Act.put, List.getElem_toArray, List.getElem_cons_succ, List.getElem_cons_zero, List.setIfInBounds_toArray, List.set_cons_zero, List.set_cons_succ])
      refine wpAnyG_take 10 (v := ?_) rfl (by kernel_rfl) (by kernel_rfl) (by kernel_rfl) (by kernel_rfl) (by rfl) (by kernel_rfl) (fun _ _ _ h => h) (by rfl) (fun w' hw' => ?_) gS ?_
      rotate_left
      focus (go_simp; (try with_reducible rfl); done)
      (try simp only [Act.put, List.getElem_toArray, List.getElem_cons_succ, List.getElem_cons_zero, List.setIfInBounds_toArray, List.set_cons_zero, List.set_cons_succ])
      refine wpAnyG_take 11 (v := ?_) rfl (by kernel_rfl) (by kernel_rfl) (by kernel_rfl) (by kernel_rfl) (by rfl) (by kernel_rfl) (fun _ _ _ h => h) (by rfl) (fun w' hw' => ?_) gS ?_
      rotate_left
      focus (have hh := HS.out _ hw'; go_split_ands; go_simp; (try with_reducible rfl); done)
      (try simp only [Act.put, List.getElem_toArray, List.getElem_cons_succ, List.getElem_cons_zero, List.setIfInBounds_toArray, List.set_cons_zero, List.set_cons_succ])
      refine wpAnyG_take 12 (v := ?_) rfl (by kernel_rfl) (by kernel_rfl) (by kernel_rfl) (by kernel_rfl) (by rfl) (by kernel_rfl) (fun _ _ _ h => h) (by rfl) (fun w' hw' => ?_) gS ?_
      rotate_left
      focus (have hh := HS.out _ hw'; go_split_ands; go_simp; (try with_reducible rfl); done)
      (try simp only [Act.put, List.getElem_toArray, List.getElem_cons_succ, List.getElem_cons_zero, List.setIfInBounds_toArray, List.set_cons_zero, List.set_cons_succ])
      refine wpAnyG_take 14 (v := ?_) rfl (by kernel_rfl) (by kernel_rfl) (by kernel_rfl) (by kernel_rfl) (by rfl) (by kernel_rfl) (fun _ _ _ h => h) (by rfl) (fun w' hw' => ?_) gS ?_
      rotate_left
      focus (have hh := HS.out _ hw'; go_split_ands; go_simp; (try with_reducible rfl); done)
      (try simp only [Act.put, List.getElem_toArray, List.getElem_cons_succ, List.getElem_cons_zero, List.setIfInBounds_toArray, List.set_cons_zero, List.set_cons_succ])
      refine wpAnyG_one 13 (by kernel_rfl) rfl (by rfl) (fun K hK => ?_)
      go_simp
      go_at_call 10
      refine (mul_f (HA1.out _ gS) (HA2.out _ gS) (by omega)).mono ?_
      rintro _ s7 ⟨b6, A6', k6', c6', B6', l6, d6, rfl, h6, z6, n6, m6⟩
      have gS : Ext W3 s7 := Ext.trans gS z6
      (try go_wp2_with fail)
      refine hK.out _ _ (fun _ => gS) ?_
      clear hK K
      (try simp only [Act.put, List.getElem_toArray, List.getElem_cons_succ, List.getElem_cons_zero, List.setIfInBounds_toArray, List.set_cons_zero, List.set_cons_succ])
      refine wpAnyG_one 15 (by kernel_rfl) rfl (by rfl) (fun K hK => ?_)
      go_simp
      go_at_call 16
      refine (cmp_e (FracV.any h6 HFM.out (by omega)) (HA3.out _ gS) (by omega) HEQ.out).mono ?_
      rintro _ s8 ⟨rfl, z8⟩
      have gS : Ext W3 s8 := Ext.trans gS z8
      have f8 := gS
      (try go_wp2_with fail)
      refine hK.out _ _ (fun _ => gS) ?_
      clear hK K
      (try simp only [Act.put, List.getElem_toArray, List.getElem_cons_succ, List.getElem_cons_zero, List.setIfInBounds_toArray, List.set_cons_zero, List.set_cons_succ])
      refine wpAnyG_take 16 (v := ?_) rfl (by kernel_rfl) (by kernel_rfl) (by kernel_rfl) (by kernel_rfl) (by rfl) (by kernel_rfl) (fun _ _ _ h => h) (by rfl) (fun w' hw' => ?_) gS ?_
      rotate_left
      focus (go_simp; (try with_reducible rfl); done)
      (try simp only [Act.put, List.getElem_toArray, List.getElem_cons_succ, List.getElem_cons_zero, List.setIfInBounds_toArray, List.set_cons_zero, List.set_cons_succ])
      refine wpAnyG_take 17 (v := ?_) rfl (by kernel_rfl) (by kernel_rfl) (by kernel_rfl) (by kernel_rfl) (by rfl) (by kernel_rfl) (fun _ _ _ h => h) (by rfl) (fun w' hw' => ?_) gS ?_
      rotate_left
      focus (go_simp; (try with_reducible rfl); done)
      (try simp only [Act.put, List.getElem_toArray, List.getElem_cons_succ, List.getElem_cons_zero, List.setIfInBounds_toArray, List.set_cons_zero, List.set_cons_succ])
      refine wpAnyG_one 18 (by kernel_rfl) rfl (by rfl) (fun K hK => ?_)
      go_simp
      refine hK.out _ _ (fun h => absurd h (by decide)) ?_
      clear hK K
      (try simp only [Act.put, List.getElem_toArray, List.getElem_cons_succ, List.getElem_cons_zero, List.setIfInBounds_toArray, List.set_cons_zero, List.set_cons_succ])
      refine wpAnyG_done (by kernel_rfl) ?_ _
      go_wp2
      go_ret
      exact ⟨rfl, HXV.out.trans (YT.trans f8)⟩

end Go.Proofs.YtjdpkmngboiemaaDoor
