/- The walk of WholeSampling. -/
import Derived.Test.YtnedgbebajhcpaaDoorLwSBest
import Derived.Test.YtnedgbebajhcpaaDoorTopA
set_option linter.unusedVariables false
set_option linter.unusedSimpArgs false
set_option maxRecDepth 100000
namespace Go.Proofs.YtnedgbebajhcpaaDoor
open Go.RowKit Num

theorem pw_addW (x : Rat) (a : Nat) : ∀ b, pw x (a + b) = pw x a * pw x b
  | 0 => by show pw x a = pw x a * 1; grind
  | b + 1 => by
    have h1 : pw x (a + (b + 1)) = pw x (a + b) * x := rfl
    have h2 : pw x (b + 1) = pw x b * x := rfl
    rw [h1, h2, pw_addW x a b]
    grind
theorem whole_eq {K M d : Nat} (hd : 1 ≤ d) {dq iq : Rat} (h1 : dq = ((d : Int) : Rat) / ((1 : Int) : Rat)) (h2 : iq = ((1 : Int) : Rat) / ((d : Int) : Rat)) : meanQ (K + M) d - meanQ K d = (dq - meanQ K d) * (meanQ M d * iq) := by
  have hd0 : (d : Rat) ≠ 0 := by exact_mod_cast (show d ≠ 0 from by omega)
  have e1 : dq = (d : Rat) := by
    rw [h1, Rat.intCast_natCast, show ((1 : Int) : Rat) = 1 from rfl, Rat.div_def]
    grind
  have e2 : iq * (d : Rat) = 1 := by
    rw [h2, Rat.intCast_natCast, show ((1 : Int) : Rat) = 1 from rfl, Rat.div_def, Rat.mul_assoc, Rat.inv_mul_cancel _ hd0]
    grind
  rw [meanQ_pw hd, meanQ_pw hd, meanQ_pw hd, e1]
  have e3 : dlt d (K + M) = dlt d K * dlt d M := pw_addW _ K M
  rw [e3]
  generalize dlt d K = a
  generalize dlt d M = b
  have e4 : ((d : Rat) - (d : Rat) * (1 - a)) * ((d : Rat) * (1 - b) * iq) = ((d : Rat) - (d : Rat) * (1 - a)) * ((1 - b) * (iq * (d : Rat))) := by grind
  rw [e4, e2]
  grind

set_option maxHeartbeats 32000000 in
theorem law_WSam {n0 x0 x1 y0 y1 : Nat} {w : World} (hn : n0 ≤ 255) (hx0 : x0 ≤ 255) (hx1 : x1 ≤ 255) (hy0 : y0 ≤ 255) (hy1 : y1 ≤ 255) (ht : Tab10 w) :
    Calls Tryd.prog 3 #[.int .u8 n0, .agg #[.int .u8 x0, .int .u8 x1], .agg #[.int .u8 y0, .int .u8 y1]] w (fun e w' => e = .returned (.bool true) ∧ Ext w w') := by
  have HT := Lib.hid (fun (w' : World) (h : Ext w w') => ht.ext h)
  obtain ⟨K, hK⟩ : ∃ K : Nat, K = n0 % 12 := ⟨_, rfl⟩
  obtain ⟨d, hd⟩ : ∃ d : Nat, d = 1 + x0 % 20 := ⟨_, rfl⟩
  obtain ⟨M, hM⟩ : ∃ M : Nat, M = y0 % 9 := ⟨_, rfl⟩
  obtain ⟨E2, hE2⟩ : ∃ E2 : Nat, E2 = 1 + x1 % 20 := ⟨_, rfl⟩
  obtain ⟨F, hF⟩ : ∃ F : Nat, F = y1 % (M + 1) := ⟨_, rfl⟩
  have hK11 : K ≤ 11 := by omega
  have hd1 : 1 ≤ d ∧ d ≤ 20 := by omega
  have hM8 : M ≤ 8 := by omega
  have hE21 : 1 ≤ E2 ∧ E2 ≤ 20 := by omega
  have hFM : F ≤ M := by have := Nat.mod_lt y1 (show M + 1 > 0 by omega); omega
  have hv1 : IntKind.i64.wrap (n0 : Int) = (n0 : Int) := wrap_in (by omega)
  have hv2 : IntKind.i64.wrap (x0 : Int) = (x0 : Int) := wrap_in (by omega)
  have hv3 : IntKind.i64.wrap (x1 : Int) = (x1 : Int) := wrap_in (by omega)
  have hv4 : IntKind.i64.wrap (y0 : Int) = (y0 : Int) := wrap_in (by omega)
  have hv5 : IntKind.i64.wrap (y1 : Int) = (y1 : Int) := wrap_in (by omega)
  have r1 : (n0 : Int) % 12 = (K : Int) := by omega
  have r2 : (x0 : Int) % 20 = (d : Int) - 1 := by omega
  have r3 : (x1 : Int) % 20 = (E2 : Int) - 1 := by omega
  have r4 : (y0 : Int) % 9 = (M : Int) := by omega
  have r5 : (y1 : Int) % ((M : Int) + 1) = (F : Int) := by rw [hF]; norm_cast
  have r1' : (n0 : Int).tmod 12 = (K : Int) := by rw [Int.tmod_eq_emod_of_nonneg (by omega)]; exact r1
  have r2' : (x0 : Int).tmod 20 = (d : Int) - 1 := by rw [Int.tmod_eq_emod_of_nonneg (by omega)]; exact r2
  have r3' : (x1 : Int).tmod 20 = (E2 : Int) - 1 := by rw [Int.tmod_eq_emod_of_nonneg (by omega)]; exact r3
  have r4' : (y0 : Int).tmod 9 = (M : Int) := by rw [Int.tmod_eq_emod_of_nonneg (by omega)]; exact r4
  have r5' : (y1 : Int).tmod ((M : Int) + 1) = (F : Int) := by rw [Int.tmod_eq_emod_of_nonneg (by omega)]; exact r5
  have w1 : IntKind.i64.wrap (1 + ((d : Int) - 1)) = (d : Int) := by rw [wrap_in (by omega)]; omega
  have w2 : IntKind.i64.wrap (1 + ((E2 : Int) - 1)) = (E2 : Int) := by rw [wrap_in (by omega)]; omega
  have w3 : IntKind.i64.wrap ((M : Int) + 1) = (M : Int) + 1 := wrap_in (by omega)
  have w4 : IntKind.i64.wrap (K : Int) = (K : Int) := wrap_in (by omega)
  have w5 : IntKind.i64.wrap (M : Int) = (M : Int) := wrap_in (by omega)
  have w6 : IntKind.i64.wrap (F : Int) = (F : Int) := wrap_in (by omega)
  have w7 : IntKind.i64.wrap ((d : Int) - 1) = (d : Int) - 1 := wrap_in (by omega)
  have w8 : IntKind.i64.wrap ((E2 : Int) - 1) = (E2 : Int) - 1 := wrap_in (by omega)
  have w9 : IntKind.i64.wrap ((M : Int) - (F : Int)) = ((M - F : Nat) : Int) := by rw [wrap_in (by omega)]; omega
  have w10 : ¬ ((M : Int) + 1 = 0) := by omega
  clear hK hd hM hE2 hF hn hx0 hx1 hy0 hy1
  go_enter Tryd.func3, Tryd.ntmps3
  go_upto_region 1 with (fail)
  have hA0 : ((w.alloc (.cells #[.int .u8 x0, .int .u8 x1] 22)).alloc (.cells #[.int .u8 y0, .int .u8 y1] 22)).cell? ⟨w.heap.size, 0, none⟩ = some (.int .u8 x0) := by simp [go_sem]
  have hA1 : ((w.alloc (.cells #[.int .u8 x0, .int .u8 x1] 22)).alloc (.cells #[.int .u8 y0, .int .u8 y1] 22)).cell? ⟨w.heap.size, 1, none⟩ = some (.int .u8 x1) := by simp [go_sem]
  have hB0 : ((w.alloc (.cells #[.int .u8 x0, .int .u8 x1] 22)).alloc (.cells #[.int .u8 y0, .int .u8 y1] 22)).cell? ⟨w.heap.size + 1, 0, none⟩ = some (.int .u8 y0) := by simp [go_sem]
  have hB1 : ((w.alloc (.cells #[.int .u8 x0, .int .u8 x1] 22)).alloc (.cells #[.int .u8 y0, .int .u8 y1] 22)).cell? ⟨w.heap.size + 1, 1, none⟩ = some (.int .u8 y1) := by simp [go_sem]
  have x0' : Ext w ((w.alloc (.cells #[.int .u8 x0, .int .u8 x1] 22)).alloc (.cells #[.int .u8 y0, .int .u8 y1] 22)) := ext_alloc (ext_alloc (Below.refl _ _) _) _
  generalize (w.alloc (.cells #[.int .u8 x0, .int .u8 x1] 22)).alloc (.cells #[.int .u8 y0, .int .u8 y1] 22) = W0 at *
  have HAB := Lib.hid (fun (w' : World) (h : Ext W0 w') => (⟨(h.cell (p := ⟨w.heap.size, 0, none⟩) (World.block_lt_of_cell? _ _ hA0)).trans hA0, (h.cell (p := ⟨w.heap.size, 1, none⟩) (World.block_lt_of_cell? _ _ hA1)).trans hA1, (h.cell (p := ⟨w.heap.size + 1, 0, none⟩) (World.block_lt_of_cell? _ _ hB0)).trans hB0, (h.cell (p := ⟨w.heap.size + 1, 1, none⟩) (World.block_lt_of_cell? _ _ hB1)).trans hB1⟩ : w'.cell? ⟨w.heap.size, 0, none⟩ = some (.int .u8 x0) ∧ w'.cell? ⟨w.heap.size, 1, none⟩ = some (.int .u8 x1) ∧ w'.cell? ⟨w.heap.size + 1, 0, none⟩ = some (.int .u8 y0) ∧ w'.cell? ⟨w.heap.size + 1, 1, none⟩ = some (.int .u8 y1)))
  have HE := Lib.hid x0'
  clear hA0 hA1 hB0 hB1 x0' ht
  go_wp2_with fail
  refine (topawake (HT.out _ HE.out)).mono ?_
  rintro e U0 ⟨rfl, V0⟩
  have F1 := Lib.hid (show FB (meanQ (K + M) d - meanQ K d) 77 from FB.sub (meanQ_fb (by omega) (by omega) (by omega)) (meanQ_fb (by omega) (by omega) (by omega)) (by omega))
  have F2 := Lib.hid (meanQ_fb (n := K) (D := d) (by omega) (by omega) (by omega))
  have F3 := Lib.hid (meanQ_fb (n := M) (D := d) (by omega) (by omega) (by omega))
  have C1 := Lib.hid (fun (w' : World) (h : Ext w w') => (show Calls Tryd.prog 10 #[.int .i64 K, .int .i64 d, .int .i64 M] w' (GivesFE w' (meanQ (K + M) d - meanQ K d)) from sexp_ok (n := K) (D := d) (m := M) (by omega) (by omega) (by omega) (HT.out _ h)))
  have C2 := Lib.hid (fun (w' : World) (h : Ext w w') => (show Calls Tryd.prog 11 #[.int .i64 K, .int .i64 d] w' (GivesFE w' (meanQ K d)) from omean_ok (n := K) (D := d) (by omega) (by omega) (by omega) (HT.out _ h)))
  have C3 := Lib.hid (fun (w' : World) (h : Ext w w') => (show Calls Tryd.prog 11 #[.int .i64 M, .int .i64 d] w' (GivesFE w' (meanQ M d)) from omean_ok (n := M) (D := d) (by omega) (by omega) (by omega) (HT.out _ h)))
  obtain ⟨dq, hdq⟩ : ∃ q : Rat, q = ((d : Int) : Rat) / ((1 : Int) : Rat) := ⟨_, rfl⟩
  obtain ⟨iq, hiq⟩ : ∃ q : Rat, q = ((1 : Int) : Rat) / ((d : Int) : Rat) := ⟨_, rfl⟩
  have hwe := whole_eq (K := K) (M := M) hd1.1 hdq hiq
  obtain ⟨xq, hxq⟩ : ∃ q, q = meanQ (K + M) d - meanQ K d := ⟨_, rfl⟩
  obtain ⟨sq, hsq⟩ : ∃ q, q = meanQ K d := ⟨_, rfl⟩
  obtain ⟨aq, haq⟩ : ∃ q, q = meanQ M d := ⟨_, rfl⟩
  rw [← hxq] at hwe F1 C1
  rw [← hsq] at hwe F2 C2
  rw [← haq] at hwe F3 C3
  have HZ := Lib.hid (show cmpQ xq ((dq - sq) * (aq * iq)) = 0 from (cmpQ_zero _ _).2 hwe)
  have HOF := Lib.hid (fun (w' : World) => (show Calls Tryd.prog 13 #[.int .i64 d, .int .i64 1] w' (GivesF w' dq) from by rw [hdq]; exact fof_n (n := (d : Int)) (d := 1) (by omega) (by omega)))
  have HOI := Lib.hid (fun (w' : World) => (show Calls Tryd.prog 13 #[.int .i64 1, .int .i64 d] w' (GivesF w' iq) from by rw [hiq]; exact fof_n (n := 1) (d := (d : Int)) (by omega) (by omega)))
  have HFD := Lib.hid (show FB dq 3 from by rw [hdq]; exact fb_i64 (by omega) (by omega))
  have HFI := Lib.hid (show FB iq 3 from by rw [hiq]; exact fb_i64 (by omega) (by omega))
  have HFS := Lib.hid (FB.sub HFD.out F2.out (by omega))
  have HFA := Lib.hid (FB.mul F3.out HFI.out (by omega))
  have HFP := Lib.hid (FB.mul HFS.out HFA.out (by omega))
  clear hwe hxq hsq haq hdq hiq
  obtain ⟨q0, q1, q2, q3⟩ := HAB.out _ V0
  go_wp2_with fail
  refine (C1.out _ (HE.out.trans V0)).mono ?_
  rintro e w1 ⟨b1, A1, k1, c1, A1', k1', c1', rfl, h1, y1, n1, n1'⟩
  clear n1 n1'
  go_upto_region 7 with (fail)
  have hG1 := FBox.new w1 (.bool b1) (.slice A1 k1 c1) (.slice A1' k1' c1') 28
  have Y1 : Ext U0 (w1.alloc (.cells #[.bool b1, .slice A1 k1 c1, .slice A1' k1' c1'] 28)) := ext_alloc y1 _
  have h1 := h1.below (ext_alloc (Below.refl _ _) (.cells #[.bool b1, .slice A1 k1 c1, .slice A1' k1' c1'] 28))
  have hsz1 : w1.heap.size < (w1.alloc (.cells #[.bool b1, .slice A1 k1 c1, .slice A1' k1' c1'] 28)).heap.size := by simp
  generalize w1.alloc (.cells #[.bool b1, .slice A1 k1 c1, .slice A1' k1' c1'] 28) = W1 at *
  generalize w1.heap.size = B1 at *
  have HG1 := Lib.hid (fun (w' : World) (h : Ext W1 w') => hG1.below h)
  have HP1 := Lib.hid (fun (w' : World) (h : Ext W1 w') => FracV.any (h1.below h) (F1.out) (by omega))
  have HB1 := Lib.hid (fun (w' : World) (h : Ext W1 w') => h1.below h)
  clear hG1 h1 y1 hsz1
  go_wp2_with fail
  refine (C2.out _ (HE.out.trans (V0.trans Y1))).mono ?_
  rintro e w2 ⟨b2, A2, k2, c2, A2', k2', c2', rfl, h2, y2, n2, n2'⟩
  clear n2 n2'
  go_upto_region 8 with (fail)
  have hG2 := FBox.new w2 (.bool b2) (.slice A2 k2 c2) (.slice A2' k2' c2') 28
  have Y2 : Ext W1 (w2.alloc (.cells #[.bool b2, .slice A2 k2 c2, .slice A2' k2' c2'] 28)) := ext_alloc y2 _
  have h2 := h2.below (ext_alloc (Below.refl _ _) (.cells #[.bool b2, .slice A2 k2 c2, .slice A2' k2' c2'] 28))
  have hsz2 : w2.heap.size < (w2.alloc (.cells #[.bool b2, .slice A2 k2 c2, .slice A2' k2' c2'] 28)).heap.size := by simp
  generalize w2.alloc (.cells #[.bool b2, .slice A2 k2 c2, .slice A2' k2' c2'] 28) = W2 at *
  generalize w2.heap.size = B2 at *
  have HG2 := Lib.hid (fun (w' : World) (h : Ext W2 w') => hG2.below h)
  have HP2 := Lib.hid (fun (w' : World) (h : Ext W2 w') => FracV.any (h2.below h) (F2.out) (by omega))
  have HB2 := Lib.hid (fun (w' : World) (h : Ext W2 w') => h2.below h)
  clear hG2 h2 y2 hsz2
  go_wp2_with fail
  refine (C3.out _ (HE.out.trans (V0.trans (Y1.trans Y2)))).mono ?_
  rintro e w3 ⟨b3, A3, k3, c3, A3', k3', c3', rfl, h3, y3, n3, n3'⟩
  clear n3 n3'
  go_upto_region 9 with (fail)
  have hG3 := FBox.new w3 (.bool b3) (.slice A3 k3 c3) (.slice A3' k3' c3') 28
  have Y3 : Ext W2 (w3.alloc (.cells #[.bool b3, .slice A3 k3 c3, .slice A3' k3' c3'] 28)) := ext_alloc y3 _
  have h3 := h3.below (ext_alloc (Below.refl _ _) (.cells #[.bool b3, .slice A3 k3 c3, .slice A3' k3' c3'] 28))
  have hsz3 : w3.heap.size < (w3.alloc (.cells #[.bool b3, .slice A3 k3 c3, .slice A3' k3' c3'] 28)).heap.size := by simp
  generalize w3.alloc (.cells #[.bool b3, .slice A3 k3 c3, .slice A3' k3' c3'] 28) = W3 at *
  generalize w3.heap.size = B3 at *
  have HG3 := Lib.hid (fun (w' : World) (h : Ext W3 w') => hG3.below h)
  have HP3 := Lib.hid (fun (w' : World) (h : Ext W3 w') => FracV.any (h3.below h) (F3.out) (by omega))
  have HB3 := Lib.hid (fun (w' : World) (h : Ext W3 w') => h3.below h)
  clear hG3 h3 y3 hsz3
  have X3 : Ext W0 W3 := V0.trans (Y1.trans (Y2.trans Y3))
  have HS := Lib.hid (fun (w' : World) (h : Ext W3 w') => (⟨(HG2.out _ (Y3.trans h)).1, (HG2.out _ (Y3.trans h)).2.1, (HG2.out _ (Y3.trans h)).2.2.1⟩ : w'.cell? ⟨B2, 0, none⟩ = some (.bool b2) ∧ w'.cell? ⟨B2, 1, none⟩ = some (.slice A2 k2 c2) ∧ w'.cell? ⟨B2, 2, none⟩ = some (.slice A2' k2' c2')))
  have HXV := Lib.hid (fun (w' : World) (h : Ext W3 w') => HP2.out _ (Y3.trans h))
  clear q0 q1 q2 q3
  go_cut [16] (fun mv wx => FBoxAt W3 wx mv (dq - sq))
  case first =>
    refine wp_region_G (fun w' => Ext W3 w') [5] (by kernel_rfl) ?_
    have gS : Ext W3 W3.drew := (Below.refl _ _).drew
    refine wpAnyG_take 0 (v := ?_) rfl (by kernel_rfl) (by kernel_rfl) (by kernel_rfl) (by kernel_rfl) (by rfl) (by kernel_rfl) (fun _ _ _ h => h) (by rfl) (fun w' hw' => ?_) gS ?_
    rotate_left
    focus (go_simp; (try with_reducible rfl); done)
    (try simp only [Act.put, List.getElem_toArray, List.getElem_cons_succ, List.getElem_cons_zero, List.setIfInBounds_toArray, List.set_cons_zero, List.set_cons_succ])
    refine wpAnyG_take 2 (v := ?_) rfl (by kernel_rfl) (by kernel_rfl) (by kernel_rfl) (by kernel_rfl) (by rfl) (by kernel_rfl) (fun _ _ _ h => h) (by rfl) (fun w' hw' => ?_) gS ?_
    rotate_left
    focus (have hh := HS.out _ hw'; go_split_ands; go_simp; (try with_reducible rfl); done)
    (try simp only [Act.put, List.getElem_toArray, List.getElem_cons_succ, List.getElem_cons_zero, List.setIfInBounds_toArray, List.set_cons_zero, List.set_cons_succ])
    refine wpAnyG_two 1 4 (by kernel_rfl) rfl rfl (by rfl) (by rfl) (fun K hK => ?_) (fun K hK => ?_)
    · go_simp
      go_at_call 13
      refine (HOF.out _).mono ?_
      rintro _ s1 ⟨b4, A4', k4', c4', B4', l4, d4, rfl, h4, z4, _⟩
      have gS : Ext W3 s1 := Ext.trans gS z4
      have hgb := gS.size
      have HH4 := Lib.hid (fun (w' : World) (h : Ext s1 w') => FracV.any (h4.below h) HFD.out (by omega))
      (try go_wp2_with fail)
      refine hK.out _ _ (fun _ => gS) ?_
      clear hK K
      (try simp only [Act.put, List.getElem_toArray, List.getElem_cons_succ, List.getElem_cons_zero, List.setIfInBounds_toArray, List.set_cons_zero, List.set_cons_succ])
      refine wpAnyG_two 3 4 (by kernel_rfl) rfl rfl (by rfl) (by rfl) (fun K hK => ?_) (fun K hK => ?_)
      · go_simp
        go_at_call 12
        refine (sub_f (HH4.out _ (Below.refl _ _)) (HXV.out _ gS) HFD.out F2.out (by omega)).mono ?_
        rintro _ s2 ⟨b6, A6', k6', c6', B6', l6, d6, rfl, h6, z6, n6, m6⟩
        have gS : Ext W3 s2 := Ext.trans gS z6
        have gg := gS
        (try go_wp2_with fail)
        refine hK.out _ _ (fun _ => gS) ?_
        clear hK K
        (try simp only [Act.put, List.getElem_toArray, List.getElem_cons_succ, List.getElem_cons_zero, List.setIfInBounds_toArray, List.set_cons_zero, List.set_cons_succ])
        refine wpAnyG_one 4 (by kernel_rfl) rfl (by rfl) (fun K hK => ?_)
        go_simp
        have gS := ext_alloc gS (.cells #[.bool false, .slice none 0 0, .slice none 0 0] 28)
        (try go_wp2_with fail)
        refine hK.out _ _ (fun _ => gS) ?_
        clear hK K
        (try simp only [Act.put, List.getElem_toArray, List.getElem_cons_succ, List.getElem_cons_zero, List.setIfInBounds_toArray, List.set_cons_zero, List.set_cons_succ])
        refine wpAnyG_one 5 (by kernel_rfl) rfl (by rfl) (fun K hK => ?_)
        go_simp
        refine hK.out _ _ (fun h => absurd h (by decide)) ?_
        clear hK K
        (try simp only [Act.put, List.getElem_toArray, List.getElem_cons_succ, List.getElem_cons_zero, List.setIfInBounds_toArray, List.set_cons_zero, List.set_cons_succ])
        refine wpAnyG_done (by kernel_rfl) ?_ _
        go_wp2
        go_meet
        refine ⟨_, b6, A6', k6', c6', B6', l6, d6, rfl, ?_, FBox.new _ _ _ _ _, h6.below (ext_alloc (Below.refl _ _) _), ext_alloc gg _⟩
        exact gg.size
      · go_simp
        have gS := ext_alloc gS (.cells #[.bool false, .slice none 0 0, .slice none 0 0] 28)
        have dF := FBox.new s1 (.bool false) (.slice none 0 0) (.slice none 0 0) 28
        (try go_wp2_with fail)
        refine hK.out _ _ (fun _ => gS) ?_
        clear hK K
        (try simp only [Act.put, List.getElem_toArray, List.getElem_cons_succ, List.getElem_cons_zero, List.setIfInBounds_toArray, List.set_cons_zero, List.set_cons_succ])
        refine wpAnyG_one 3 (by kernel_rfl) rfl (by rfl) (fun K hK => ?_)
        go_simp
        go_at_call 12
        refine (sub_f (HH4.out _ (ext_alloc (Below.refl _ _) _)) (HXV.out _ gS) HFD.out F2.out (by omega)).mono ?_
        rintro _ s2 ⟨b6, A6', k6', c6', B6', l6, d6, rfl, h6, z6, n6, m6⟩
        have gS : Ext W3 s2 := Ext.trans gS z6
        have dF := dF.below z6
        have gg := gS
        obtain ⟨i0, i1, i2, j0, j1, j2⟩ := dF
        (try go_wp2_with fail)
        refine hK.out _ _ (fun _ => gS) ?_
        clear hK K
        (try simp only [Act.put, List.getElem_toArray, List.getElem_cons_succ, List.getElem_cons_zero, List.setIfInBounds_toArray, List.set_cons_zero, List.set_cons_succ])
        refine wpAnyG_one 5 (by kernel_rfl) rfl (by rfl) (fun K hK => ?_)
        go_simp
        refine hK.out _ _ (fun h => absurd h (by decide)) ?_
        clear hK K
        (try simp only [Act.put, List.getElem_toArray, List.getElem_cons_succ, List.getElem_cons_zero, List.setIfInBounds_toArray, List.set_cons_zero, List.set_cons_succ])
        refine wpAnyG_done (by kernel_rfl) ?_ _
        go_wp2
        go_meet
        refine ⟨_, b6, A6', k6', c6', B6', l6, d6, rfl, hgb, FBox.put ⟨i0, i1, i2, j0, j1, j2⟩ _ _ _, h6.put n6 m6 (by simp) _ _ _, ext_put gg hgb _ _ _⟩
    · go_simp
      have gS := ext_alloc gS (.cells #[.bool false, .slice none 0 0, .slice none 0 0] 28)
      have dF : FBox (W3.alloc (.cells #[.bool false, .slice none 0 0, .slice none 0 0] 28)).drew W3.heap.size (.bool false) (.slice none 0 0) (.slice none 0 0) := FBox.new W3 (.bool false) (.slice none 0 0) (.slice none 0 0) 28
      (try go_wp2_with fail)
      refine hK.out _ _ (fun _ => gS) ?_
      clear hK K
      (try simp only [Act.put, List.getElem_toArray, List.getElem_cons_succ, List.getElem_cons_zero, List.setIfInBounds_toArray, List.set_cons_zero, List.set_cons_succ])
      refine wpAnyG_one 1 (by kernel_rfl) rfl (by rfl) (fun K hK => ?_)
      go_simp
      go_at_call 13
      refine (HOF.out _).mono ?_
      rintro _ s1 ⟨b4, A4', k4', c4', B4', l4, d4, rfl, h4, z4, _⟩
      have hz4 := z4.size
      have gS : Ext W3 s1 := Ext.trans gS z4
      have dF := dF.below z4
      have HH4 := Lib.hid (fun (w' : World) (h : Ext s1 w') => FracV.any (h4.below h) HFD.out (by omega))
      (try go_wp2_with fail)
      refine hK.out _ _ (fun _ => gS) ?_
      clear hK K
      (try simp only [Act.put, List.getElem_toArray, List.getElem_cons_succ, List.getElem_cons_zero, List.setIfInBounds_toArray, List.set_cons_zero, List.set_cons_succ])
      refine wpAnyG_one 3 (by kernel_rfl) rfl (by rfl) (fun K hK => ?_)
      go_simp
      go_at_call 12
      refine (sub_f (HH4.out _ (Below.refl _ _)) (HXV.out _ gS) HFD.out F2.out (by omega)).mono ?_
      rintro _ s2 ⟨b6, A6', k6', c6', B6', l6, d6, rfl, h6, z6, n6, m6⟩
      have gS : Ext W3 s2 := Ext.trans gS z6
      have dF := dF.below z6
      have gg := gS
      have hdl : W3.heap.size < s1.heap.size := by simp at hz4; omega
      obtain ⟨i0, i1, i2, j0, j1, j2⟩ := dF
      (try go_wp2_with fail)
      refine hK.out _ _ (fun _ => gS) ?_
      clear hK K
      (try simp only [Act.put, List.getElem_toArray, List.getElem_cons_succ, List.getElem_cons_zero, List.setIfInBounds_toArray, List.set_cons_zero, List.set_cons_succ])
      refine wpAnyG_one 5 (by kernel_rfl) rfl (by rfl) (fun K hK => ?_)
      go_simp
      refine hK.out _ _ (fun h => absurd h (by decide)) ?_
      clear hK K
      (try simp only [Act.put, List.getElem_toArray, List.getElem_cons_succ, List.getElem_cons_zero, List.setIfInBounds_toArray, List.set_cons_zero, List.set_cons_succ])
      refine wpAnyG_done (by kernel_rfl) ?_ _
      go_wp2
      go_meet
      refine ⟨_, b6, A6', k6', c6', B6', l6, d6, rfl, Nat.le_refl _, FBox.put ⟨i0, i1, i2, j0, j1, j2⟩ _ _ _, h6.put n6 m6 hdl _ _ _, ext_put gg (Nat.le_refl _) _ _ _⟩
  case rest =>
    obtain ⟨bm, bc, OA, ok, ol, OA', ok', ol', rfl, hbm, hMB, vM, xM⟩ := hcut
    obtain ⟨WC, hWC⟩ : ∃ WC : World, WC = wc := ⟨_, rfl⟩
    subst hWC
    have HGH := Lib.hid (fun (w' : World) (h : Ext WC w') => hMB.below h)
    have HPH := Lib.hid (fun (w' : World) (h : Ext WC w') => FracV.any (vM.below h) HFS.out (by omega))
    have XC := X3.trans xM
    clear hMB vM HS
    have HS := Lib.hid (fun (w' : World) (h : Ext WC w') => (⟨⟨(HG1.out _ (Y2.trans (Y3.trans (xM.trans h)))).1, (HG1.out _ (Y2.trans (Y3.trans (xM.trans h)))).2.1, (HG1.out _ (Y2.trans (Y3.trans (xM.trans h)))).2.2.1⟩, ⟨(HGH.out _ h).1, (HGH.out _ h).2.1, (HGH.out _ h).2.2.1⟩, (HG3.out _ (xM.trans h)).1, (HG3.out _ (xM.trans h)).2.1, (HG3.out _ (xM.trans h)).2.2.1⟩ :
      (w'.cell? ⟨B1, 0, none⟩ = some (.bool b1) ∧ w'.cell? ⟨B1, 1, none⟩ = some (.slice A1 k1 c1) ∧ w'.cell? ⟨B1, 2, none⟩ = some (.slice A1' k1' c1')) ∧ (w'.cell? ⟨bm, 0, none⟩ = some (.bool bc) ∧ w'.cell? ⟨bm, 1, none⟩ = some (.slice OA ok ol) ∧ w'.cell? ⟨bm, 2, none⟩ = some (.slice OA' ok' ol')) ∧
      w'.cell? ⟨B3, 0, none⟩ = some (.bool b3) ∧ w'.cell? ⟨B3, 1, none⟩ = some (.slice A3 k3 c3) ∧ w'.cell? ⟨B3, 2, none⟩ = some (.slice A3' k3' c3')))
    go_upto_region 10 with (fail)
    refine wp_region_G (fun w' => Ext WC w') [20] (by kernel_rfl) ?_
    have gS : Ext WC WC.drew := (Below.refl _ _).drew
    refine wpAnyG_take 0 (v := ?_) rfl (by kernel_rfl) (by kernel_rfl) (by kernel_rfl) (by kernel_rfl) (by rfl) (by kernel_rfl) (fun _ _ _ h => h) (by rfl) (fun w' hw' => ?_) gS ?_
    rotate_left
    focus (go_simp; (try with_reducible rfl); done)
    (try simp only [Act.put, List.getElem_toArray, List.getElem_cons_succ, List.getElem_cons_zero, List.setIfInBounds_toArray, List.set_cons_zero, List.set_cons_succ])
    refine wpAnyG_take 1 (v := ?_) rfl (by kernel_rfl) (by kernel_rfl) (by kernel_rfl) (by kernel_rfl) (by rfl) (by kernel_rfl) (fun _ _ _ h => h) (by rfl) (fun w' hw' => ?_) gS ?_
    rotate_left
    focus (go_simp; (try with_reducible rfl); done)
    (try simp only [Act.put, List.getElem_toArray, List.getElem_cons_succ, List.getElem_cons_zero, List.setIfInBounds_toArray, List.set_cons_zero, List.set_cons_succ])
    refine wpAnyG_take 2 (v := ?_) rfl (by kernel_rfl) (by kernel_rfl) (by kernel_rfl) (by kernel_rfl) (by rfl) (by kernel_rfl) (fun _ _ _ h => h) (by rfl) (fun w' hw' => ?_) gS ?_
    rotate_left
    focus (go_simp; (try with_reducible rfl); done)
    (try simp only [Act.put, List.getElem_toArray, List.getElem_cons_succ, List.getElem_cons_zero, List.setIfInBounds_toArray, List.set_cons_zero, List.set_cons_succ])
    refine wpAnyG_take 3 (v := ?_) rfl (by kernel_rfl) (by kernel_rfl) (by kernel_rfl) (by kernel_rfl) (by rfl) (by kernel_rfl) (fun _ _ _ h => h) (by rfl) (fun w' hw' => ?_) gS ?_
    rotate_left
    focus (go_simp; (try with_reducible rfl); done)
    (try simp only [Act.put, List.getElem_toArray, List.getElem_cons_succ, List.getElem_cons_zero, List.setIfInBounds_toArray, List.set_cons_zero, List.set_cons_succ])
    refine wpAnyG_take 4 (v := ?_) rfl (by kernel_rfl) (by kernel_rfl) (by kernel_rfl) (by kernel_rfl) (by rfl) (by kernel_rfl) (fun _ _ _ h => h) (by rfl) (fun w' hw' => ?_) gS ?_
    rotate_left
    focus (go_simp; (try with_reducible rfl); done)
    (try simp only [Act.put, List.getElem_toArray, List.getElem_cons_succ, List.getElem_cons_zero, List.setIfInBounds_toArray, List.set_cons_zero, List.set_cons_succ])
    refine wpAnyG_take 5 (v := ?_) rfl (by kernel_rfl) (by kernel_rfl) (by kernel_rfl) (by kernel_rfl) (by rfl) (by kernel_rfl) (fun _ _ _ h => h) (by rfl) (fun w' hw' => ?_) gS ?_
    rotate_left
    focus (go_simp; (try with_reducible rfl); done)
    (try simp only [Act.put, List.getElem_toArray, List.getElem_cons_succ, List.getElem_cons_zero, List.setIfInBounds_toArray, List.set_cons_zero, List.set_cons_succ])
    refine wpAnyG_take 6 (v := ?_) rfl (by kernel_rfl) (by kernel_rfl) (by kernel_rfl) (by kernel_rfl) (by rfl) (by kernel_rfl) (fun _ _ _ h => h) (by rfl) (fun w' hw' => ?_) gS ?_
    rotate_left
    focus (go_simp; (try with_reducible rfl); done)
    (try simp only [Act.put, List.getElem_toArray, List.getElem_cons_succ, List.getElem_cons_zero, List.setIfInBounds_toArray, List.set_cons_zero, List.set_cons_succ])
    refine wpAnyG_take 7 (v := ?_) rfl (by kernel_rfl) (by kernel_rfl) (by kernel_rfl) (by kernel_rfl) (by rfl) (by kernel_rfl) (fun _ _ _ h => h) (by rfl) (fun w' hw' => ?_) gS ?_
    rotate_left
    focus (go_simp; (try with_reducible rfl); done)
    (try simp only [Act.put, List.getElem_toArray, List.getElem_cons_succ, List.getElem_cons_zero, List.setIfInBounds_toArray, List.set_cons_zero, List.set_cons_succ])
    refine wpAnyG_take 8 (v := ?_) rfl (by kernel_rfl) (by kernel_rfl) (by kernel_rfl) (by kernel_rfl) (by rfl) (by kernel_rfl) (fun _ _ _ h => h) (by rfl) (fun w' hw' => ?_) gS ?_
    rotate_left
    focus (go_simp; (try with_reducible rfl); done)
    (try simp only [Act.put, List.getElem_toArray, List.getElem_cons_succ, List.getElem_cons_zero, List.setIfInBounds_toArray, List.set_cons_zero, List.set_cons_succ])
    refine wpAnyG_take 9 (v := ?_) rfl (by kernel_rfl) (by kernel_rfl) (by kernel_rfl) (by kernel_rfl) (by rfl) (by kernel_rfl) (fun _ _ _ h => h) (by rfl) (fun w' hw' => ?_) gS ?_
    rotate_left
    focus (go_simp; (try with_reducible rfl); done)
    (try simp only [Act.put, List.getElem_toArray, List.getElem_cons_succ, List.getElem_cons_zero, List.setIfInBounds_toArray, List.set_cons_zero, List.set_cons_succ])
    refine wpAnyG_take 10 (v := ?_) rfl (by kernel_rfl) (by kernel_rfl) (by kernel_rfl) (by kernel_rfl) (by rfl) (by kernel_rfl) (fun _ _ _ h => h) (by rfl) (fun w' hw' => ?_) gS ?_
    rotate_left
    focus (go_simp; (try with_reducible rfl); done)
    (try simp only [Act.put, List.getElem_toArray, List.getElem_cons_succ, List.getElem_cons_zero, List.setIfInBounds_toArray, List.set_cons_zero, List.set_cons_succ])
    refine wpAnyG_take 11 (v := ?_) rfl (by kernel_rfl) (by kernel_rfl) (by kernel_rfl) (by kernel_rfl) (by rfl) (by kernel_rfl) (fun _ _ _ h => h) (by rfl) (fun w' hw' => ?_) gS ?_
    rotate_left
    focus (have hh := HS.out _ hw'; go_split_ands; go_simp; (try with_reducible rfl); done)
    (try simp only [Act.put, List.getElem_toArray, List.getElem_cons_succ, List.getElem_cons_zero, List.setIfInBounds_toArray, List.set_cons_zero, List.set_cons_succ])
    refine wpAnyG_take 12 (v := ?_) rfl (by kernel_rfl) (by kernel_rfl) (by kernel_rfl) (by kernel_rfl) (by rfl) (by kernel_rfl) (fun _ _ _ h => h) (by rfl) (fun w' hw' => ?_) gS ?_
    rotate_left
    focus (have hh := HS.out _ hw'; go_split_ands; go_simp; (try with_reducible rfl); done)
    (try simp only [Act.put, List.getElem_toArray, List.getElem_cons_succ, List.getElem_cons_zero, List.setIfInBounds_toArray, List.set_cons_zero, List.set_cons_succ])
    refine wpAnyG_take 13 (v := ?_) rfl (by kernel_rfl) (by kernel_rfl) (by kernel_rfl) (by kernel_rfl) (by rfl) (by kernel_rfl) (fun _ _ _ h => h) (by rfl) (fun w' hw' => ?_) gS ?_
    rotate_left
    focus (have hh := HS.out _ hw'; go_split_ands; go_simp; (try with_reducible rfl); done)
    (try simp only [Act.put, List.getElem_toArray, List.getElem_cons_succ, List.getElem_cons_zero, List.setIfInBounds_toArray, List.set_cons_zero, List.set_cons_succ])
    refine wpAnyG_take 14 (v := ?_) rfl (by kernel_rfl) (by kernel_rfl) (by kernel_rfl) (by kernel_rfl) (by rfl) (by kernel_rfl) (fun _ _ _ h => h) (by rfl) (fun w' hw' => ?_) gS ?_
    rotate_left
    focus (go_simp; (try with_reducible rfl); done)
    (try simp only [Act.put, List.getElem_toArray, List.getElem_cons_succ, List.getElem_cons_zero, List.setIfInBounds_toArray, List.set_cons_zero, List.set_cons_succ])
    refine wpAnyG_one 15 (by kernel_rfl) rfl (by rfl) (fun K hK => ?_)
    (try simp only [List.getElem_toArray, List.getElem_cons_succ, List.getElem_cons_zero])
    go_simp
    go_at_call 13
    refine (HOI.out _).mono ?_
    rintro _ s1 ⟨b4, A4, k4, c4, B4, l4, d4, rfl, h4, z4, _, _⟩
    have gS : Ext WC s1 := Ext.trans gS z4
    (try go_wp2_with fail)
    refine hK.out _ _ (fun _ => gS) ?_
    clear hK K
    (try simp only [Act.put, List.getElem_toArray, List.getElem_cons_succ, List.getElem_cons_zero, List.setIfInBounds_toArray, List.set_cons_zero, List.set_cons_succ])
    refine wpAnyG_one 16 (by kernel_rfl) rfl (by rfl) (fun K hK => ?_)
    (try simp only [List.getElem_toArray, List.getElem_cons_succ, List.getElem_cons_zero])
    go_simp
    go_at_call 15
    refine (mul_f (HP3.out _ (xM.trans gS)) (FracV.any h4 HFI.out (by omega)) (by omega)).mono ?_
    rintro _ s2 ⟨b5, A5, k5, c5, B5, l5, d5, rfl, h5, z5, _, _⟩
    have gS : Ext WC s2 := Ext.trans gS z5
    (try go_wp2_with fail)
    refine hK.out _ _ (fun _ => gS) ?_
    clear hK K
    (try simp only [Act.put, List.getElem_toArray, List.getElem_cons_succ, List.getElem_cons_zero, List.setIfInBounds_toArray, List.set_cons_zero, List.set_cons_succ])
    refine wpAnyG_one 17 (by kernel_rfl) rfl (by rfl) (fun K hK => ?_)
    (try simp only [List.getElem_toArray, List.getElem_cons_succ, List.getElem_cons_zero])
    go_simp
    go_at_call 15
    refine (mul_f (HPH.out _ gS) (FracV.any h5 HFA.out (by omega)) (by omega)).mono ?_
    rintro _ s3 ⟨b6, A6, k6, c6, B6, l6, d6, rfl, h6, z6, _, _⟩
    have gS : Ext WC s3 := Ext.trans gS z6
    (try go_wp2_with fail)
    refine hK.out _ _ (fun _ => gS) ?_
    clear hK K
    (try simp only [Act.put, List.getElem_toArray, List.getElem_cons_succ, List.getElem_cons_zero, List.setIfInBounds_toArray, List.set_cons_zero, List.set_cons_succ])
    refine wpAnyG_one 18 (by kernel_rfl) rfl (by rfl) (fun K hK => ?_)
    (try simp only [List.getElem_toArray, List.getElem_cons_succ, List.getElem_cons_zero])
    go_simp
    go_at_call 14
    refine (cmp_e (HP1.out _ (Y2.trans (Y3.trans (xM.trans gS)))) (FracV.any h6 HFP.out (by omega)) (by omega) HZ.out).mono ?_
    rintro _ s4 ⟨rfl, z7⟩
    have gS : Ext WC s4 := Ext.trans gS z7
    have X4 := XC.trans gS
    (try go_wp2_with fail)
    refine hK.out _ _ (fun _ => gS) ?_
    clear hK K
    (try simp only [Act.put, List.getElem_toArray, List.getElem_cons_succ, List.getElem_cons_zero, List.setIfInBounds_toArray, List.set_cons_zero, List.set_cons_succ])
    refine wpAnyG_take 19 (v := ?_) rfl (by kernel_rfl) (by kernel_rfl) (by kernel_rfl) (by kernel_rfl) (by rfl) (by kernel_rfl) (fun _ _ _ h => h) (by rfl) (fun w' hw' => ?_) gS ?_
    rotate_left
    focus (go_simp; (try with_reducible rfl); done)
    (try simp only [Act.put, List.getElem_toArray, List.getElem_cons_succ, List.getElem_cons_zero, List.setIfInBounds_toArray, List.set_cons_zero, List.set_cons_succ])
    refine wpAnyG_one 20 (by kernel_rfl) rfl (by rfl) (fun K hK => ?_)
    (try simp only [List.getElem_toArray, List.getElem_cons_succ, List.getElem_cons_zero])
    go_simp
    refine hK.out _ _ (fun h => absurd h (by decide)) ?_
    clear hK K
    (try simp only [Act.put, List.getElem_toArray, List.getElem_cons_succ, List.getElem_cons_zero, List.setIfInBounds_toArray, List.set_cons_zero, List.set_cons_succ])
    refine wpAnyG_done (by kernel_rfl) ?_ _
    clear h4 h5 h6 HS gS
    have hPD : PlanN [d, E2] := ⟨by show 1 ≤ 2 ∧ 2 ≤ 4; omega, fun e he => by
      rcases List.mem_cons.1 he with rfl | he
      · omega
      · rcases List.mem_cons.1 he with rfl | he
        · omega
        · cases he⟩
    have HPD := Lib.hid hPD
    clear hPD
    obtain ⟨q0, q1, q2, q3⟩ := HAB.out _ X4
    go_wp2_with fail
    have HL := Lib.hid (ints_lit2S s4 (d : Int) (E2 : Int))
    have xP : Ext s4 (s4.alloc (.cells #[.int .i64 (d : Int), .int .i64 (E2 : Int)] 3)) := ext_alloc (Below.refl _ _) _
    have XP := X4.trans xP
    generalize s4.alloc (.cells #[.int .i64 (d : Int), .int .i64 (E2 : Int)] 3) = WP at *
    generalize s4.heap.size = gp at *
    have HPV := Lib.hid (fun (w' : World) (h : Ext WP w') => (show IntsV w' (.slice (some ⟨gp, 0, none⟩) 2 2) (natsS [d, E2]) from HL.out.below h))
    refine (split_n (D := [d, E2]) (n := 2) (m := M) HPD.out rfl (by omega) (HPV.out _ (Below.refl _ _)) (HT.out _ (HE.out.trans XP))).mono ?_
    rintro e U5 ⟨AB, cB, rfl, hI5, y5⟩
    have HI5 := Lib.hid (fun (w' : World) (h : Ext U5 w') => hI5.below h)
    have XU := XP.trans y5
    have hbm := bestL_mem (D := [d, E2]) (m := M) (fun e he => (HPD.out.2 e he).1) HPD.out.1.1
    obtain ⟨bs, hbs⟩ : ∃ bs, bs = (bestL [d, E2] M).1 := ⟨_, rfl⟩
    have hge := bestL_ge (D := [d, E2]) (l := [F, M - F]) (m := M) HPD.out.1.1 rfl (by show F + ((M - F) + 0) = M; omega)
    rw [hbm.2.2] at hge
    rw [← hbs] at hbm hge HI5
    match bs, hbm.1, hbm.2.1 with
    | [p, q], _, hpq =>
      have hpq' : p + q = M := hpq
      have hw1 : IntKind.i64.wrap ((p : Int) + (q : Int)) = (M : Int) := by rw [wrap_in (by omega)]; omega
      obtain ⟨gq, hgq⟩ : ∃ g, g = gl [d, E2] [p, q] := ⟨_, rfl⟩
      obtain ⟨oq, hoq⟩ : ∃ g, g = gl [d, E2] [F, M - F] := ⟨_, rfl⟩
      have G1 := Lib.hid (fun (w' : World) (h : Ext U5 w') => gain_n (D := [d, E2]) (x := [p, q]) (n := 2) HPD.out rfl rfl (fun e he => by
        rcases List.mem_cons.1 he with rfl | he
        · omega
        · rcases List.mem_cons.1 he with rfl | he
          · omega
          · cases he) (HPV.out _ (y5.trans h)) (HI5.out _ h) (HT.out _ (HE.out.trans (XU.trans h))))
      have hs2 : ∀ e ∈ [F, M - F], e ≤ 30 := fun e he => by
        rcases List.mem_cons.1 he with rfl | he
        · omega
        · rcases List.mem_cons.1 he with rfl | he
          · omega
          · cases he
      have HS2 := Lib.hid hs2
      have FG1 := Lib.hid (gl_fb (D := [d, E2]) (l := [p, q]) HPD.out rfl (fun e he => by
        rcases List.mem_cons.1 he with rfl | he
        · omega
        · rcases List.mem_cons.1 he with rfl | he
          · omega
          · cases he))
      have FG2 := Lib.hid (gl_fb (D := [d, E2]) (l := [F, M - F]) HPD.out rfl hs2)
      have HOQ := Lib.hid hoq
      rw [← hgq] at G1 FG1 hge
      rw [← hoq] at FG2 hge
      obtain ⟨z, hz⟩ : ∃ z, cmpQ gq oq = z := ⟨_, rfl⟩
      have HZZ := Lib.hid hz
      have ez : decide (0 ≤ z) = true := decide_eq_true (by
        have h : ¬ z < 0 := by rw [← hz, cmpQ_neg]; grind
        omega)
      obtain ⟨q0, q1, q2, q3⟩ := HAB.out _ XU
      clear hbm hbs hge hgq hoq hz hs2 hpq
      go_wp2_with fail
      refine (G1.out _ (Below.refl _ _)).mono ?_
      rintro e w6 ⟨b6, A6, k6, c6, A6', k6', c6', rfl, h6, y6, n6, n6'⟩
      clear n6 n6'
      go_upto_region 16 with (fail)
      have hG6 := FBox.new w6 (.bool b6) (.slice A6 k6 c6) (.slice A6' k6' c6') 28
      have Y6 : Ext U5 (w6.alloc (.cells #[.bool b6, .slice A6 k6 c6, .slice A6' k6' c6'] 28)) := ext_alloc y6 _
      have h6 := h6.below (ext_alloc (Below.refl _ _) (.cells #[.bool b6, .slice A6 k6 c6, .slice A6' k6' c6'] 28))
      have hsz6 : w6.heap.size < (w6.alloc (.cells #[.bool b6, .slice A6 k6 c6, .slice A6' k6' c6'] 28)).heap.size := by simp
      generalize w6.alloc (.cells #[.bool b6, .slice A6 k6 c6, .slice A6' k6' c6'] 28) = W6 at *
      generalize w6.heap.size = B6 at *
      have HG6 := Lib.hid (fun (w' : World) (h : Ext W6 w') => hG6.below h)
      have HP6 := Lib.hid (fun (w' : World) (h : Ext W6 w') => FracV.any (h6.below h) (FG1.out) (by omega))
      have HB6 := Lib.hid (fun (w' : World) (h : Ext W6 w') => h6.below h)
      clear hG6 h6 y6 hsz6
      have X6 := XU.trans Y6
      go_wp2_with fail
      have HL2 := Lib.hid (ints_lit2S W6 (F : Int) ((M - F : Nat) : Int))
      have xQ : Ext W6 (W6.alloc (.cells #[.int .i64 (F : Int), .int .i64 ((M - F : Nat) : Int)] 3)) := ext_alloc (Below.refl _ _) _
      generalize W6.alloc (.cells #[.int .i64 (F : Int), .int .i64 ((M - F : Nat) : Int)] 3) = WQ at *
      generalize W6.heap.size = gs at *
      refine (gain_n (D := [d, E2]) (x := [F, M - F]) (n := 2) HPD.out rfl rfl HS2.out (HPV.out _ (y5.trans (Y6.trans xQ))) HL2.out (HT.out _ (HE.out.trans (X6.trans xQ)))).mono ?_
      rw [← HOQ.out]
      rintro e w7 ⟨b7, A7, k7, c7, A7', k7', c7', rfl, h7, y7, n7, n7'⟩
      clear n7 n7'
      have y7 : Ext W6 w7 := xQ.trans y7
      go_upto_region 17 with (fail)
      have hG7 := FBox.new w7 (.bool b7) (.slice A7 k7 c7) (.slice A7' k7' c7') 28
      have Y7 : Ext W6 (w7.alloc (.cells #[.bool b7, .slice A7 k7 c7, .slice A7' k7' c7'] 28)) := ext_alloc y7 _
      have h7 := h7.below (ext_alloc (Below.refl _ _) (.cells #[.bool b7, .slice A7 k7 c7, .slice A7' k7' c7'] 28))
      have hsz7 : w7.heap.size < (w7.alloc (.cells #[.bool b7, .slice A7 k7 c7, .slice A7' k7' c7'] 28)).heap.size := by simp
      generalize w7.alloc (.cells #[.bool b7, .slice A7 k7 c7, .slice A7' k7' c7'] 28) = W7 at *
      generalize w7.heap.size = B7 at *
      have HG7 := Lib.hid (fun (w' : World) (h : Ext W7 w') => hG7.below h)
      have HP7 := Lib.hid (fun (w' : World) (h : Ext W7 w') => FracV.any (h7.below h) FG2.out (by omega))
      clear hG7 h7 y7 hsz7
      obtain ⟨b5, o5, rfl, hb5, hc50⟩ := (HI5.out _ (Below.refl _ _)).plS (k := 0) (by show 0 < 2; omega)
      obtain ⟨b5', o5', he5, _, hc51⟩ := (HI5.out _ (Below.refl _ _)).plS (k := 1) (by show 1 < 2; omega)
      injection he5 with he5
      injection he5 with he51 he52
      subst he51 he52
      have hc50' : U5.cell? ⟨b5, o5, none⟩ = some (.int .i64 (p : Int)) := hc50
      have hc51' : U5.cell? ⟨b5, o5 + 1, none⟩ = some (.int .i64 (q : Int)) := hc51
      have HS := Lib.hid (fun (w' : World) (h : Ext W7 w') => (⟨((Y6.trans (Y7.trans h)).cell (p := ⟨b5, o5, none⟩) hb5).trans hc50', ((Y6.trans (Y7.trans h)).cell (p := ⟨b5, o5 + 1, none⟩) hb5).trans hc51', ⟨(HG6.out _ (Y7.trans h)).1, (HG6.out _ (Y7.trans h)).2.1, (HG6.out _ (Y7.trans h)).2.2.1⟩, (HG7.out _ h).1, (HG7.out _ h).2.1, (HG7.out _ h).2.2.1⟩ :
        w'.cell? ⟨b5, o5, none⟩ = some (.int .i64 p) ∧ w'.cell? ⟨b5, o5 + 1, none⟩ = some (.int .i64 q) ∧ (w'.cell? ⟨B6, 0, none⟩ = some (.bool b6) ∧ w'.cell? ⟨B6, 1, none⟩ = some (.slice A6 k6 c6) ∧ w'.cell? ⟨B6, 2, none⟩ = some (.slice A6' k6' c6')) ∧ w'.cell? ⟨B7, 0, none⟩ = some (.bool b7) ∧ w'.cell? ⟨B7, 1, none⟩ = some (.slice A7 k7 c7) ∧ w'.cell? ⟨B7, 2, none⟩ = some (.slice A7' k7' c7')))
      clear hc50 hc51 hc50' hc51' q0 q1 q2 q3
      refine wp_region_G (fun w' => Ext W7 w') [32] (by kernel_rfl) ?_
      have gS : Ext W7 W7.drew := (Below.refl _ _).drew
      refine wpAnyG_take 0 (v := ?_) rfl (by kernel_rfl) (by kernel_rfl) (by kernel_rfl) (by kernel_rfl) (by rfl) (by kernel_rfl) (fun _ _ _ h => h) (by rfl) (fun w' hw' => ?_) gS ?_
      rotate_left
      focus (go_simp; (try with_reducible rfl); done)
      (try simp only [Act.put, List.getElem_toArray, List.getElem_cons_succ, List.getElem_cons_zero, List.setIfInBounds_toArray, List.set_cons_zero, List.set_cons_succ])
      refine wpAnyG_take 1 (v := ?_) rfl (by kernel_rfl) (by kernel_rfl) (by kernel_rfl) (by kernel_rfl) (by rfl) (by kernel_rfl) (fun _ _ _ h => h) (by rfl) (fun w' hw' => ?_) gS ?_
      rotate_left
      focus (go_simp; (try with_reducible rfl); done)
      (try simp only [Act.put, List.getElem_toArray, List.getElem_cons_succ, List.getElem_cons_zero, List.setIfInBounds_toArray, List.set_cons_zero, List.set_cons_succ])
      refine wpAnyG_take 2 (v := ?_) rfl (by kernel_rfl) (by kernel_rfl) (by kernel_rfl) (by kernel_rfl) (by rfl) (by kernel_rfl) (fun _ _ _ h => h) (by rfl) (fun w' hw' => ?_) gS ?_
      rotate_left
      focus (go_simp; (try with_reducible rfl); done)
      (try simp only [Act.put, List.getElem_toArray, List.getElem_cons_succ, List.getElem_cons_zero, List.setIfInBounds_toArray, List.set_cons_zero, List.set_cons_succ])
      refine wpAnyG_take 3 (v := ?_) rfl (by kernel_rfl) (by kernel_rfl) (by kernel_rfl) (by kernel_rfl) (by rfl) (by kernel_rfl) (fun _ _ _ h => h) (by rfl) (fun w' hw' => ?_) gS ?_
      rotate_left
      focus (go_simp; (try with_reducible rfl); done)
      (try simp only [Act.put, List.getElem_toArray, List.getElem_cons_succ, List.getElem_cons_zero, List.setIfInBounds_toArray, List.set_cons_zero, List.set_cons_succ])
      refine wpAnyG_take 4 (v := ?_) rfl (by kernel_rfl) (by kernel_rfl) (by kernel_rfl) (by kernel_rfl) (by rfl) (by kernel_rfl) (fun _ _ _ h => h) (by rfl) (fun w' hw' => ?_) gS ?_
      rotate_left
      focus (go_simp; (try with_reducible rfl); done)
      (try simp only [Act.put, List.getElem_toArray, List.getElem_cons_succ, List.getElem_cons_zero, List.setIfInBounds_toArray, List.set_cons_zero, List.set_cons_succ])
      refine wpAnyG_take 5 (v := ?_) rfl (by kernel_rfl) (by kernel_rfl) (by kernel_rfl) (by kernel_rfl) (by rfl) (by kernel_rfl) (fun _ _ _ h => h) (by rfl) (fun w' hw' => ?_) gS ?_
      rotate_left
      focus (go_simp; (try with_reducible rfl); done)
      (try simp only [Act.put, List.getElem_toArray, List.getElem_cons_succ, List.getElem_cons_zero, List.setIfInBounds_toArray, List.set_cons_zero, List.set_cons_succ])
      refine wpAnyG_take 6 (v := ?_) rfl (by kernel_rfl) (by kernel_rfl) (by kernel_rfl) (by kernel_rfl) (by rfl) (by kernel_rfl) (fun _ _ _ h => h) (by rfl) (fun w' hw' => ?_) gS ?_
      rotate_left
      focus (go_simp; (try with_reducible rfl); done)
      (try simp only [Act.put, List.getElem_toArray, List.getElem_cons_succ, List.getElem_cons_zero, List.setIfInBounds_toArray, List.set_cons_zero, List.set_cons_succ])
      refine wpAnyG_take 7 (v := ?_) rfl (by kernel_rfl) (by kernel_rfl) (by kernel_rfl) (by kernel_rfl) (by rfl) (by kernel_rfl) (fun _ _ _ h => h) (by rfl) (fun w' hw' => ?_) gS ?_
      rotate_left
      focus (go_simp; (try with_reducible rfl); done)
      (try simp only [Act.put, List.getElem_toArray, List.getElem_cons_succ, List.getElem_cons_zero, List.setIfInBounds_toArray, List.set_cons_zero, List.set_cons_succ])
      refine wpAnyG_take 8 (v := ?_) rfl (by kernel_rfl) (by kernel_rfl) (by kernel_rfl) (by kernel_rfl) (by rfl) (by kernel_rfl) (fun _ _ _ h => h) (by rfl) (fun w' hw' => ?_) gS ?_
      rotate_left
      focus (go_simp; (try with_reducible rfl); done)
      (try simp only [Act.put, List.getElem_toArray, List.getElem_cons_succ, List.getElem_cons_zero, List.setIfInBounds_toArray, List.set_cons_zero, List.set_cons_succ])
      refine wpAnyG_take 9 (v := ?_) rfl (by kernel_rfl) (by kernel_rfl) (by kernel_rfl) (by kernel_rfl) (by rfl) (by kernel_rfl) (fun _ _ _ h => h) (by rfl) (fun w' hw' => ?_) gS ?_
      rotate_left
      focus (go_simp; (try with_reducible rfl); done)
      (try simp only [Act.put, List.getElem_toArray, List.getElem_cons_succ, List.getElem_cons_zero, List.setIfInBounds_toArray, List.set_cons_zero, List.set_cons_succ])
      refine wpAnyG_take 10 (v := ?_) rfl (by kernel_rfl) (by kernel_rfl) (by kernel_rfl) (by kernel_rfl) (by rfl) (by kernel_rfl) (fun _ _ _ h => h) (by rfl) (fun w' hw' => ?_) gS ?_
      rotate_left
      focus (go_simp; (try with_reducible rfl); done)
      (try simp only [Act.put, List.getElem_toArray, List.getElem_cons_succ, List.getElem_cons_zero, List.setIfInBounds_toArray, List.set_cons_zero, List.set_cons_succ])
      refine wpAnyG_take 11 (v := ?_) rfl (by kernel_rfl) (by kernel_rfl) (by kernel_rfl) (by kernel_rfl) (by rfl) (by kernel_rfl) (fun _ _ _ h => h) (by rfl) (fun w' hw' => ?_) gS ?_
      rotate_left
      focus (go_simp; (try with_reducible rfl); done)
      (try simp only [Act.put, List.getElem_toArray, List.getElem_cons_succ, List.getElem_cons_zero, List.setIfInBounds_toArray, List.set_cons_zero, List.set_cons_succ])
      refine wpAnyG_take 12 (v := ?_) rfl (by kernel_rfl) (by kernel_rfl) (by kernel_rfl) (by kernel_rfl) (by rfl) (by kernel_rfl) (fun _ _ _ h => h) (by rfl) (fun w' hw' => ?_) gS ?_
      rotate_left
      focus (go_simp; (try with_reducible rfl); done)
      (try simp only [Act.put, List.getElem_toArray, List.getElem_cons_succ, List.getElem_cons_zero, List.setIfInBounds_toArray, List.set_cons_zero, List.set_cons_succ])
      refine wpAnyG_take 13 (v := ?_) rfl (by kernel_rfl) (by kernel_rfl) (by kernel_rfl) (by kernel_rfl) (by rfl) (by kernel_rfl) (fun _ _ _ h => h) (by rfl) (fun w' hw' => ?_) gS ?_
      rotate_left
      focus (go_simp; (try with_reducible rfl); done)
      (try simp only [Act.put, List.getElem_toArray, List.getElem_cons_succ, List.getElem_cons_zero, List.setIfInBounds_toArray, List.set_cons_zero, List.set_cons_succ])
      refine wpAnyG_take 14 (v := ?_) rfl (by kernel_rfl) (by kernel_rfl) (by kernel_rfl) (by kernel_rfl) (by rfl) (by kernel_rfl) (fun _ _ _ h => h) (by rfl) (fun w' hw' => ?_) gS ?_
      rotate_left
      focus (go_simp; (try with_reducible rfl); done)
      (try simp only [Act.put, List.getElem_toArray, List.getElem_cons_succ, List.getElem_cons_zero, List.setIfInBounds_toArray, List.set_cons_zero, List.set_cons_succ])
      refine wpAnyG_take 15 (v := ?_) rfl (by kernel_rfl) (by kernel_rfl) (by kernel_rfl) (by kernel_rfl) (by rfl) (by kernel_rfl) (fun _ _ _ h => h) (by rfl) (fun w' hw' => ?_) gS ?_
      rotate_left
      focus (go_simp; (try with_reducible rfl); done)
      (try simp only [Act.put, List.getElem_toArray, List.getElem_cons_succ, List.getElem_cons_zero, List.setIfInBounds_toArray, List.set_cons_zero, List.set_cons_succ])
      refine wpAnyG_take 16 (v := ?_) rfl (by kernel_rfl) (by kernel_rfl) (by kernel_rfl) (by kernel_rfl) (by rfl) (by kernel_rfl) (fun _ _ _ h => h) (by rfl) (fun w' hw' => ?_) gS ?_
      rotate_left
      focus (go_simp; (try with_reducible rfl); done)
      (try simp only [Act.put, List.getElem_toArray, List.getElem_cons_succ, List.getElem_cons_zero, List.setIfInBounds_toArray, List.set_cons_zero, List.set_cons_succ])
      refine wpAnyG_take 17 (v := ?_) rfl (by kernel_rfl) (by kernel_rfl) (by kernel_rfl) (by kernel_rfl) (by rfl) (by kernel_rfl) (fun _ _ _ h => h) (by rfl) (fun w' hw' => ?_) gS ?_
      rotate_left
      focus (go_simp; (try with_reducible rfl); done)
      (try simp only [Act.put, List.getElem_toArray, List.getElem_cons_succ, List.getElem_cons_zero, List.setIfInBounds_toArray, List.set_cons_zero, List.set_cons_succ])
      refine wpAnyG_take 18 (v := ?_) rfl (by kernel_rfl) (by kernel_rfl) (by kernel_rfl) (by kernel_rfl) (by rfl) (by kernel_rfl) (fun _ _ _ h => h) (by rfl) (fun w' hw' => ?_) gS ?_
      rotate_left
      focus (have hh := HS.out _ hw'; go_split_ands; go_simp; (try with_reducible rfl); done)
      (try simp only [Act.put, List.getElem_toArray, List.getElem_cons_succ, List.getElem_cons_zero, List.setIfInBounds_toArray, List.set_cons_zero, List.set_cons_succ])
      refine wpAnyG_take 19 (v := ?_) rfl (by kernel_rfl) (by kernel_rfl) (by kernel_rfl) (by kernel_rfl) (by rfl) (by kernel_rfl) (fun _ _ _ h => h) (by rfl) (fun w' hw' => ?_) gS ?_
      rotate_left
      focus (go_simp; (try with_reducible rfl); done)
      (try simp only [Act.put, List.getElem_toArray, List.getElem_cons_succ, List.getElem_cons_zero, List.setIfInBounds_toArray, List.set_cons_zero, List.set_cons_succ])
      refine wpAnyG_take 20 (v := ?_) rfl (by kernel_rfl) (by kernel_rfl) (by kernel_rfl) (by kernel_rfl) (by rfl) (by kernel_rfl) (fun _ _ _ h => h) (by rfl) (fun w' hw' => ?_) gS ?_
      rotate_left
      focus (go_simp; (try with_reducible rfl); done)
      (try simp only [Act.put, List.getElem_toArray, List.getElem_cons_succ, List.getElem_cons_zero, List.setIfInBounds_toArray, List.set_cons_zero, List.set_cons_succ])
      refine wpAnyG_take 21 (v := ?_) rfl (by kernel_rfl) (by kernel_rfl) (by kernel_rfl) (by kernel_rfl) (by rfl) (by kernel_rfl) (fun _ _ _ h => h) (by rfl) (fun w' hw' => ?_) gS ?_
      rotate_left
      focus (have hh := HS.out _ hw'; go_split_ands; go_simp; (try with_reducible rfl); done)
      (try simp only [Act.put, List.getElem_toArray, List.getElem_cons_succ, List.getElem_cons_zero, List.setIfInBounds_toArray, List.set_cons_zero, List.set_cons_succ])
      refine wpAnyG_take 22 (v := ?_) rfl (by kernel_rfl) (by kernel_rfl) (by kernel_rfl) (by kernel_rfl) (by rfl) (by kernel_rfl) (fun _ _ _ h => h) (by rfl) (fun w' hw' => ?_) gS ?_
      rotate_left
      focus (go_simp; (try with_reducible rfl); done)
      (try simp only [Act.put, List.getElem_toArray, List.getElem_cons_succ, List.getElem_cons_zero, List.setIfInBounds_toArray, List.set_cons_zero, List.set_cons_succ])
      refine wpAnyG_take 23 (v := ?_) rfl (by kernel_rfl) (by kernel_rfl) (by kernel_rfl) (by kernel_rfl) (by rfl) (by kernel_rfl) (fun _ _ _ h => h) (by rfl) (fun w' hw' => ?_) gS ?_
      rotate_left
      focus (go_simp; (try with_reducible rfl); done)
      (try simp only [Act.put, List.getElem_toArray, List.getElem_cons_succ, List.getElem_cons_zero, List.setIfInBounds_toArray, List.set_cons_zero, List.set_cons_succ])
      refine wpAnyG_take 24 (v := ?_) rfl (by kernel_rfl) (by kernel_rfl) (by kernel_rfl) (by kernel_rfl) (by rfl) (by kernel_rfl) (fun _ _ _ h => h) (by rfl) (fun w' hw' => ?_) gS ?_
      rotate_left
      focus (go_simp; (try with_reducible rfl); done)
      (try simp only [Act.put, List.getElem_toArray, List.getElem_cons_succ, List.getElem_cons_zero, List.setIfInBounds_toArray, List.set_cons_zero, List.set_cons_succ])
      refine wpAnyG_take 25 (v := ?_) rfl (by kernel_rfl) (by kernel_rfl) (by kernel_rfl) (by kernel_rfl) (by rfl) (by kernel_rfl) (fun _ _ _ h => h) (by rfl) (fun w' hw' => ?_) gS ?_
      rotate_left
      focus (go_simp; (try with_reducible rfl); done)
      (try simp only [Act.put, List.getElem_toArray, List.getElem_cons_succ, List.getElem_cons_zero, List.setIfInBounds_toArray, List.set_cons_zero, List.set_cons_succ])
      refine wpAnyG_take 26 (v := ?_) rfl (by kernel_rfl) (by kernel_rfl) (by kernel_rfl) (by kernel_rfl) (by rfl) (by kernel_rfl) (fun _ _ _ h => h) (by rfl) (fun w' hw' => ?_) gS ?_
      rotate_left
      focus (go_simp; (try with_reducible rfl); done)
      (try simp only [Act.put, List.getElem_toArray, List.getElem_cons_succ, List.getElem_cons_zero, List.setIfInBounds_toArray, List.set_cons_zero, List.set_cons_succ])
      refine wpAnyG_take 27 (v := ?_) rfl (by kernel_rfl) (by kernel_rfl) (by kernel_rfl) (by kernel_rfl) (by rfl) (by kernel_rfl) (fun _ _ _ h => h) (by rfl) (fun w' hw' => ?_) gS ?_
      rotate_left
      focus (have hh := HS.out _ hw'; go_split_ands; go_simp; (try with_reducible rfl); done)
      (try simp only [Act.put, List.getElem_toArray, List.getElem_cons_succ, List.getElem_cons_zero, List.setIfInBounds_toArray, List.set_cons_zero, List.set_cons_succ])
      refine wpAnyG_take 28 (v := ?_) rfl (by kernel_rfl) (by kernel_rfl) (by kernel_rfl) (by kernel_rfl) (by rfl) (by kernel_rfl) (fun _ _ _ h => h) (by rfl) (fun w' hw' => ?_) gS ?_
      rotate_left
      focus (have hh := HS.out _ hw'; go_split_ands; go_simp; (try with_reducible rfl); done)
      (try simp only [Act.put, List.getElem_toArray, List.getElem_cons_succ, List.getElem_cons_zero, List.setIfInBounds_toArray, List.set_cons_zero, List.set_cons_succ])
      refine wpAnyG_one 29 (by kernel_rfl) rfl (by rfl) (fun K hK => ?_)
      (try simp only [List.getElem_toArray, List.getElem_cons_succ, List.getElem_cons_zero])
      go_simp
      go_at_call 14
      refine (cmp_e (HP6.out _ (Y7.trans gS)) (HP7.out _ gS) (by omega) HZZ.out).mono ?_
      rintro _ s9 ⟨rfl, z9⟩
      have gS : Ext W7 s9 := Ext.trans gS z9
      have f9 := gS
      (try go_wp2_with fail)
      refine hK.out _ _ (fun _ => gS) ?_
      clear hK K
      (try simp only [Act.put, List.getElem_toArray, List.getElem_cons_succ, List.getElem_cons_zero, List.setIfInBounds_toArray, List.set_cons_zero, List.set_cons_succ])
      refine wpAnyG_take 30 (v := ?_) rfl (by kernel_rfl) (by kernel_rfl) (by kernel_rfl) (by kernel_rfl) (by rfl) (by kernel_rfl) (fun _ _ _ h => h) (by rfl) (fun w' hw' => ?_) gS ?_
      rotate_left
      focus (go_simp; (try with_reducible rfl); done)
      (try simp only [Act.put, List.getElem_toArray, List.getElem_cons_succ, List.getElem_cons_zero, List.setIfInBounds_toArray, List.set_cons_zero, List.set_cons_succ])
      refine wpAnyG_take 31 (v := ?_) rfl (by kernel_rfl) (by kernel_rfl) (by kernel_rfl) (by kernel_rfl) (by rfl) (by kernel_rfl) (fun _ _ _ h => h) (by rfl) (fun w' hw' => ?_) gS ?_
      rotate_left
      focus (go_simp; (try with_reducible rfl); done)
      (try simp only [Act.put, List.getElem_toArray, List.getElem_cons_succ, List.getElem_cons_zero, List.setIfInBounds_toArray, List.set_cons_zero, List.set_cons_succ])
      refine wpAnyG_one 32 (by kernel_rfl) rfl (by rfl) (fun K hK => ?_)
      (try simp only [List.getElem_toArray, List.getElem_cons_succ, List.getElem_cons_zero])
      go_simp
      refine hK.out _ _ (fun h => absurd h (by decide)) ?_
      clear hK K
      (try simp only [Act.put, List.getElem_toArray, List.getElem_cons_succ, List.getElem_cons_zero, List.setIfInBounds_toArray, List.set_cons_zero, List.set_cons_succ])
      refine wpAnyG_done (by kernel_rfl) ?_ _
      go_wp2
      go_ret
      exact ⟨rfl, HE.out.trans (X6.trans (Y7.trans f9))⟩

end Go.Proofs.YtnedgbebajhcpaaDoor
