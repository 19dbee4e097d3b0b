/- The walk of SamplingLeast. -/
import Derived.Test.YtnedgbebajhcpaaDoorSamZ
import Derived.Test.YtnedgbebajhcpaaDoorRIn
import Derived.Test.YtnedgbebajhcpaaDoorWf
import Derived.Test.YtnedgbebajhcpaaDoorOpn
set_option linter.unusedVariables false
set_option linter.unusedSimpArgs false
set_option maxRecDepth 100000
namespace Go.Proofs.YtnedgbebajhcpaaDoor
open Go.RowKit Num

theorem enP_t {E n : Nat} {q dq mq : Rat} {z : Int} (h : enP E q n = true) (hd : dq = ((E : Int) : Rat) / ((1 : Int) : Rat)) (hm : mq = meanQ n E) (hz : cmpQ mq (q * dq) = z) : 0 ≤ z := by
  unfold enP at h
  rw [← hd, ← hm, hz] at h
  exact of_decide_eq_true h
theorem enP_f {E n : Nat} {q dq mq : Rat} {z : Int} (h : enP E q n = false) (hd : dq = ((E : Int) : Rat) / ((1 : Int) : Rat)) (hm : mq = meanQ n E) (hz : cmpQ mq (q * dq) = z) : ¬ 0 ≤ z := by
  unfold enP at h
  rw [← hd, ← hm, hz] at h
  exact of_decide_eq_false h
/-- The mean and how it compares. -/
theorem mean_cmp {E n : Nat} (q dq : Rat) (hn : n ≤ 30) (hE : 1 ≤ E ∧ E ≤ 60) : ∃ (mq : Rat) (z : Int), mq = meanQ n E ∧ cmpQ mq (q * dq) = z ∧ FB mq 38 ∧ ∀ w, Tab10 w → Calls Tryd.prog 11 #[.int .i64 n, .int .i64 E] w (GivesFE w mq) :=
  ⟨_, _, rfl, rfl, meanQ_fb (n := n) (D := E) hn hE.1 hE.2, fun w ht => omean_ok (n := n) (D := E) hn hE.1 hE.2 ht⟩

set_option maxHeartbeats 16000000 in
theorem law_SLeast {D : Int} {v1 : Value} {z1 : FracIn} {w : World} (hD : -9223372036854775808 ≤ D ∧ D ≤ 9223372036854775807) (h1 : KFrac w v1 z1) (ht : Tab10 w) :
    Calls Tryd.prog 8 #[.int .i64 D, v1] w (fun e w' => e = .returned (.bool true) ∧ Ext w w') := by
  obtain ⟨ng, nl, nv, dl, dv⟩ := z1
  obtain ⟨s, t, rfl, hs, hd⟩ := h1
  dsimp only at hs hd ⊢
  have HT := Lib.hid (fun (w' : World) (h : Ext w w') => ht.ext h)
  have HSL := Lib.hid (fun (w' : World) (h : Ext w w') => hs.below h)
  have HDL := Lib.hid (fun (w' : World) (h : Ext w w') => hd.below h)
  obtain ⟨A, c, rfl⟩ := hs.form
  obtain ⟨A', c', rfl⟩ := hd.form
  clear ht
  by_cases hf1 : nl ≤ 3
  · have en : decide ((3 : Int) < (nl : Int)) = false := decide_eq_false (by omega)
    have en' : ¬ 3 < nl := by omega
    by_cases hf2 : dl ≤ 3
    · have ed : decide ((3 : Int) < (dl : Int)) = false := decide_eq_false (by omega)
      have ed' : ¬ 3 < dl := by omega
      have HX := Lib.hid (fun (w' : World) (h : Ext w w') => KFrac.any (z := ⟨ng, nl, nv, dl, dv⟩) (HSL.out _ h) (HDL.out _ h) (L := 3) hf1 hf2 (by omega))
      dsimp only at HX
      obtain ⟨q, hq⟩ : ∃ q, q = frac ng nv dv := ⟨_, rfl⟩
      rw [← hq] at HX
      have HFQ := Lib.hid ((HX.out _ (Below.refl _ _)).fbS (by omega))
      clear hq hf1 hf2 hs hd
      go_enter Tryd.func8, Tryd.ntmps8
      go_upto_region 1 with (fail)
      have hB0 := FBox.new w (.bool ng) (.slice A nl c) (.slice A' dl c') 28
      have x0 : Ext w (w.alloc (.cells #[.bool ng, .slice A nl c, .slice A' dl c'] 28)) := ext_alloc (Below.refl _ _) _
      have hs0 : w.heap.size + 1 ≤ (w.alloc (.cells #[.bool ng, .slice A nl c, .slice A' dl c'] 28)).heap.size := by simp
      generalize (w.alloc (.cells #[.bool ng, .slice A nl c, .slice A' dl c'] 28)) = W0 at *
      have HB0 := Lib.hid (fun (w' : World) (h : Ext W0 w') => hB0.below h)
      obtain ⟨c00, c01, c02, d00, d01, d02⟩ := hB0
      have HE := Lib.hid x0
      clear x0
      have f0 : Ext W0 W0 := Below.refl _ _
      go_wp2_with fail
      refine (sawake (HT.out _ HE.out)).mono ?_
      rintro e U1 ⟨rfl, y1⟩
      obtain ⟨c00, c01, c02, _, _, _⟩ := HB0.out _ y1
      go_wp2_with fail
      refine (mod_i (b := 60) (by omega) (by omega) hD).mono ?_
      rintro e w3 ⟨j, hj, rfl, hw3⟩
      obtain rfl : U1 = w3 := hw3.symm
      obtain ⟨E, hE⟩ : ∃ E : Nat, E = j + 1 := ⟨_, rfl⟩
      have hwE : IntKind.i64.wrap (1 + (j : Int)) = (E : Int) := by rw [wrap_in (by omega)]; omega
      have hE1 : 1 ≤ E ∧ E ≤ 60 := by omega
      clear hj hE hD
      obtain ⟨vn, ve, hcase, hcall⟩ := enough_cases (E := E) (q := q) (L := 3 + 1) hE1.1 hE1.2 (by omega) (by omega)
      have HCS := Lib.hid hcase
      have HCALL := Lib.hid hcall
      clear hcase hcall
      go_wp2_with fail
      refine (HCALL.out _ _ _ _ (HX.out _ (HE.out.trans y1)) (HT.out _ (HE.out.trans y1))).mono ?_
      rintro e U2 ⟨rfl, y2⟩
      have y2 := Ext.trans y1 y2
      go_upto_region 5 with (fail)
      obtain ⟨dq, hdq⟩ : ∃ x : Rat, x = ((E : Int) : Rat) / ((1 : Int) : Rat) := ⟨_, rfl⟩
      have HDQ := Lib.hid hdq
      have HOF := Lib.hid (fun (w' : World) => (show Calls Tryd.prog 13 #[.int .i64 E, .int .i64 1] w' (GivesF w' dq) from by rw [hdq]; exact fof_n (n := (E : Int)) (d := 1) (by omega) (by omega)))
      have HFD := Lib.hid (show FB dq 3 from by rw [hdq]; exact fb_i64 (by omega) (by omega))
      have HFR := Lib.hid (FB.mul HFQ.out HFD.out (by omega))
      have HS := Lib.hid (fun (w' : World) (h : Ext U2 w') => (⟨(HB0.out _ (y2.trans h)).1, (HB0.out _ (y2.trans h)).2.1, (HB0.out _ (y2.trans h)).2.2.1⟩ : w'.cell? ⟨w.heap.size, 0, none⟩ = some (.bool ng) ∧ w'.cell? ⟨w.heap.size, 1, none⟩ = some (.slice A nl c) ∧ w'.cell? ⟨w.heap.size, 2, none⟩ = some (.slice A' dl c')))
      have HXV := Lib.hid (fun (w' : World) (h : Ext U2 w') => HX.out _ (HE.out.trans (y2.trans h)))
      clear hdq
      go_cut [7] (fun mv wx => FBoxAt U2 wx mv (q * dq))
      case first =>
        refine wp_region_G (fun w' => Ext U2 w') [5] (by kernel_rfl) ?_
        have gS : Ext U2 U2.drew := (Below.refl _ _).drew
        refine wpAnyG_take 0 (v := ?_) rfl (by kernel_rfl) (by kernel_rfl) (by kernel_rfl) (by kernel_rfl) (by rfl) (by kernel_rfl) (fun _ _ _ h => h) (by rfl) (fun w' hw' => ?_) gS ?_
        rotate_left
        focus (have hh := HS.out _ hw'; go_split_ands; go_simp; (try with_reducible rfl); done)
        (try simp only [Act.put, List.getElem_toArray, List.getElem_cons_succ, List.getElem_cons_zero, List.setIfInBounds_toArray, List.set_cons_zero, List.set_cons_succ])
        refine wpAnyG_take 1 (v := ?_) rfl (by kernel_rfl) (by kernel_rfl) (by kernel_rfl) (by kernel_rfl) (by rfl) (by kernel_rfl) (fun _ _ _ h => h) (by rfl) (fun w' hw' => ?_) gS ?_
        rotate_left
        focus (go_simp; (try with_reducible rfl); done)
        (try simp only [Act.put, List.getElem_toArray, List.getElem_cons_succ, List.getElem_cons_zero, List.setIfInBounds_toArray, List.set_cons_zero, List.set_cons_succ])
        refine wpAnyG_two 2 4 (by kernel_rfl) rfl rfl (by rfl) (by rfl) (fun K hK => ?_) (fun K hK => ?_)
        · go_simp
          go_at_call 13
          refine (HOF.out _).mono ?_
          rintro _ s1 ⟨b4, A4', k4', c4', B4', l4, d4, rfl, h4, z4, _⟩
          have gS : Ext U2 s1 := Ext.trans gS z4
          have hgb := gS.size
          have HH4 := Lib.hid (fun (w' : World) (h : Ext s1 w') => FracV.any (h4.below h) HFD.out (by omega))
          (try go_wp2_with fail)
          refine hK.out _ _ (fun _ => gS) ?_
          clear hK K
          (try simp only [Act.put, List.getElem_toArray, List.getElem_cons_succ, List.getElem_cons_zero, List.setIfInBounds_toArray, List.set_cons_zero, List.set_cons_succ])
          refine wpAnyG_two 3 4 (by kernel_rfl) rfl rfl (by rfl) (by rfl) (fun K hK => ?_) (fun K hK => ?_)
          · go_simp
            go_at_call 15
            refine (mul_f (HXV.out _ gS) (HH4.out _ (Below.refl _ _)) (by omega)).mono ?_
            rintro _ s2 ⟨b6, A6', k6', c6', B6', l6, d6, rfl, h6, z6, n6, m6⟩
            have gS : Ext U2 s2 := Ext.trans gS z6
            have gg := gS
            (try go_wp2_with fail)
            refine hK.out _ _ (fun _ => gS) ?_
            clear hK K
            (try simp only [Act.put, List.getElem_toArray, List.getElem_cons_succ, List.getElem_cons_zero, List.setIfInBounds_toArray, List.set_cons_zero, List.set_cons_succ])
            refine wpAnyG_one 4 (by kernel_rfl) rfl (by rfl) (fun K hK => ?_)
            go_simp
            have gS := ext_alloc gS (.cells #[.bool false, .slice none 0 0, .slice none 0 0] 28)
            (try go_wp2_with fail)
            refine hK.out _ _ (fun _ => gS) ?_
            clear hK K
            (try simp only [Act.put, List.getElem_toArray, List.getElem_cons_succ, List.getElem_cons_zero, List.setIfInBounds_toArray, List.set_cons_zero, List.set_cons_succ])
            refine wpAnyG_one 5 (by kernel_rfl) rfl (by rfl) (fun K hK => ?_)
            go_simp
            refine hK.out _ _ (fun h => absurd h (by decide)) ?_
            clear hK K
            (try simp only [Act.put, List.getElem_toArray, List.getElem_cons_succ, List.getElem_cons_zero, List.setIfInBounds_toArray, List.set_cons_zero, List.set_cons_succ])
            refine wpAnyG_done (by kernel_rfl) ?_ _
            go_wp2
            go_meet
            refine ⟨_, b6, A6', k6', c6', B6', l6, d6, rfl, ?_, FBox.new _ _ _ _ _, h6.below (ext_alloc (Below.refl _ _) _), ext_alloc gg _⟩
            exact gg.size
          · go_simp
            have gS := ext_alloc gS (.cells #[.bool false, .slice none 0 0, .slice none 0 0] 28)
            have dF := FBox.new s1 (.bool false) (.slice none 0 0) (.slice none 0 0) 28
            (try go_wp2_with fail)
            refine hK.out _ _ (fun _ => gS) ?_
            clear hK K
            (try simp only [Act.put, List.getElem_toArray, List.getElem_cons_succ, List.getElem_cons_zero, List.setIfInBounds_toArray, List.set_cons_zero, List.set_cons_succ])
            refine wpAnyG_one 3 (by kernel_rfl) rfl (by rfl) (fun K hK => ?_)
            go_simp
            go_at_call 15
            refine (mul_f (HXV.out _ gS) (HH4.out _ (ext_alloc (Below.refl _ _) _)) (by omega)).mono ?_
            rintro _ s2 ⟨b6, A6', k6', c6', B6', l6, d6, rfl, h6, z6, n6, m6⟩
            have gS : Ext U2 s2 := Ext.trans gS z6
            have dF := dF.below z6
            have gg := gS
            obtain ⟨i0, i1, i2, j0, j1, j2⟩ := dF
            (try go_wp2_with fail)
            refine hK.out _ _ (fun _ => gS) ?_
            clear hK K
            (try simp only [Act.put, List.getElem_toArray, List.getElem_cons_succ, List.getElem_cons_zero, List.setIfInBounds_toArray, List.set_cons_zero, List.set_cons_succ])
            refine wpAnyG_one 5 (by kernel_rfl) rfl (by rfl) (fun K hK => ?_)
            go_simp
            refine hK.out _ _ (fun h => absurd h (by decide)) ?_
            clear hK K
            (try simp only [Act.put, List.getElem_toArray, List.getElem_cons_succ, List.getElem_cons_zero, List.setIfInBounds_toArray, List.set_cons_zero, List.set_cons_succ])
            refine wpAnyG_done (by kernel_rfl) ?_ _
            go_wp2
            go_meet
            refine ⟨_, b6, A6', k6', c6', B6', l6, d6, rfl, hgb, FBox.put ⟨i0, i1, i2, j0, j1, j2⟩ _ _ _, h6.put n6 m6 (by simp) _ _ _, ext_put gg hgb _ _ _⟩
        · go_simp
          have gS := ext_alloc gS (.cells #[.bool false, .slice none 0 0, .slice none 0 0] 28)
          have dF : FBox (U2.alloc (.cells #[.bool false, .slice none 0 0, .slice none 0 0] 28)).drew U2.heap.size (.bool false) (.slice none 0 0) (.slice none 0 0) := FBox.new U2 (.bool false) (.slice none 0 0) (.slice none 0 0) 28
          (try go_wp2_with fail)
          refine hK.out _ _ (fun _ => gS) ?_
          clear hK K
          (try simp only [Act.put, List.getElem_toArray, List.getElem_cons_succ, List.getElem_cons_zero, List.setIfInBounds_toArray, List.set_cons_zero, List.set_cons_succ])
          refine wpAnyG_one 2 (by kernel_rfl) rfl (by rfl) (fun K hK => ?_)
          go_simp
          go_at_call 13
          refine (HOF.out _).mono ?_
          rintro _ s1 ⟨b4, A4', k4', c4', B4', l4, d4, rfl, h4, z4, _⟩
          have hz4 := z4.size
          have gS : Ext U2 s1 := Ext.trans gS z4
          have dF := dF.below z4
          have HH4 := Lib.hid (fun (w' : World) (h : Ext s1 w') => FracV.any (h4.below h) HFD.out (by omega))
          (try go_wp2_with fail)
          refine hK.out _ _ (fun _ => gS) ?_
          clear hK K
          (try simp only [Act.put, List.getElem_toArray, List.getElem_cons_succ, List.getElem_cons_zero, List.setIfInBounds_toArray, List.set_cons_zero, List.set_cons_succ])
          refine wpAnyG_one 3 (by kernel_rfl) rfl (by rfl) (fun K hK => ?_)
          go_simp
          go_at_call 15
          refine (mul_f (HXV.out _ gS) (HH4.out _ (Below.refl _ _)) (by omega)).mono ?_
          rintro _ s2 ⟨b6, A6', k6', c6', B6', l6, d6, rfl, h6, z6, n6, m6⟩
          have gS : Ext U2 s2 := Ext.trans gS z6
          have dF := dF.below z6
          have gg := gS
          have hdl : U2.heap.size < s1.heap.size := by simp at hz4; omega
          obtain ⟨i0, i1, i2, j0, j1, j2⟩ := dF
          (try go_wp2_with fail)
          refine hK.out _ _ (fun _ => gS) ?_
          clear hK K
          (try simp only [Act.put, List.getElem_toArray, List.getElem_cons_succ, List.getElem_cons_zero, List.setIfInBounds_toArray, List.set_cons_zero, List.set_cons_succ])
          refine wpAnyG_one 5 (by kernel_rfl) rfl (by rfl) (fun K hK => ?_)
          go_simp
          refine hK.out _ _ (fun h => absurd h (by decide)) ?_
          clear hK K
          (try simp only [Act.put, List.getElem_toArray, List.getElem_cons_succ, List.getElem_cons_zero, List.setIfInBounds_toArray, List.set_cons_zero, List.set_cons_succ])
          refine wpAnyG_done (by kernel_rfl) ?_ _
          go_wp2
          go_meet
          refine ⟨_, b6, A6', k6', c6', B6', l6, d6, rfl, Nat.le_refl _, FBox.put ⟨i0, i1, i2, j0, j1, j2⟩ _ _ _, h6.put n6 m6 hdl _ _ _, ext_put gg (Nat.le_refl _) _ _ _⟩
      case rest =>
        obtain ⟨bm, bc, OA, ok, ol, OA', ok', ol', rfl, hbm, hM, vM, xM⟩ := hcut
        obtain ⟨WC, hWC⟩ : ∃ WC : World, WC = wc := ⟨_, rfl⟩
        subst hWC
        have HGH := Lib.hid (fun (w' : World) (h : Ext WC w') => hM.below h)
        have HPH := Lib.hid (fun (w' : World) (h : Ext WC w') => FracV.any (vM.below h) HFR.out (by omega))
        have XC := Lib.hid (HE.out.trans (y2.trans xM))
        have XU := Lib.hid (y2.trans xM)
        clear hM vM
        rcases HCS.out with ⟨hve, hvn, hsh⟩ | ⟨N, hN, hve, hvn, hT, hF⟩ | ⟨hve, hvn, hF⟩
        · subst hve hvn
          obtain ⟨x1, hx1⟩ : ∃ z, sgnQ q = z := ⟨_, rfl⟩
          obtain ⟨x2, hx2⟩ : ∃ z, cmpQ q one1 = z := ⟨_, rfl⟩
          have hq' : ¬ (¬ x1 < 0 ∧ ¬ 0 < x2) := by rw [← hx1, ← hx2]; exact hsh
          have HZ1 := Lib.hid hx1
          have HZ2 := Lib.hid hx2
          clear hx1 hx2 hsh
          go_upto_region 10 with (fail)
          have HS := Lib.hid (fun (w' : World) (h : Ext WC w') => (⟨(HB0.out _ (XU.out.trans h)).1, (HB0.out _ (XU.out.trans h)).2.1, (HB0.out _ (XU.out.trans h)).2.2.1⟩ : w'.cell? ⟨w.heap.size, 0, none⟩ = some (.bool ng) ∧ w'.cell? ⟨w.heap.size, 1, none⟩ = some (.slice A nl c) ∧ w'.cell? ⟨w.heap.size, 2, none⟩ = some (.slice A' dl c')))
          by_cases hs : x1 < 0
          · have e1 : decide (x1 < 0) = true := decide_eq_true hs
            clear hs hq'
            refine wp_region_G (fun w' => Ext WC w') [13] (by kernel_rfl) ?_
            have gS : Ext WC WC.drew := (Below.refl _ _).drew
            refine wpAnyG_take 0 (v := ?_) rfl (by kernel_rfl) (by kernel_rfl) (by kernel_rfl) (by kernel_rfl) (by rfl) (by kernel_rfl) (fun _ _ _ h => h) (by rfl) (fun w' hw' => ?_) gS ?_
            rotate_left
            focus (go_simp; (try with_reducible rfl); done)
            (try simp only [Act.put, List.getElem_toArray, List.getElem_cons_succ, List.getElem_cons_zero, List.setIfInBounds_toArray, List.set_cons_zero, List.set_cons_succ])
            refine wpAnyG_take 1 (v := ?_) rfl (by kernel_rfl) (by kernel_rfl) (by kernel_rfl) (by kernel_rfl) (by rfl) (by kernel_rfl) (fun _ _ _ h => h) (by rfl) (fun w' hw' => ?_) gS ?_
            rotate_left
            focus (go_simp; (try with_reducible rfl); done)
            (try simp only [Act.put, List.getElem_toArray, List.getElem_cons_succ, List.getElem_cons_zero, List.setIfInBounds_toArray, List.set_cons_zero, List.set_cons_succ])
            refine wpAnyG_take 2 (v := ?_) rfl (by kernel_rfl) (by kernel_rfl) (by kernel_rfl) (by kernel_rfl) (by rfl) (by kernel_rfl) (fun _ _ _ h => h) (by rfl) (fun w' hw' => ?_) gS ?_
            rotate_left
            focus (go_simp; (try with_reducible rfl); done)
            (try simp only [Act.put, List.getElem_toArray, List.getElem_cons_succ, List.getElem_cons_zero, List.setIfInBounds_toArray, List.set_cons_zero, List.set_cons_succ])
            refine wpAnyG_take 3 (v := ?_) rfl (by kernel_rfl) (by kernel_rfl) (by kernel_rfl) (by kernel_rfl) (by rfl) (by kernel_rfl) (fun _ _ _ h => h) (by rfl) (fun w' hw' => ?_) gS ?_
            rotate_left
            focus (have hh := HS.out _ hw'; go_split_ands; go_simp; (try with_reducible rfl); done)
            (try simp only [Act.put, List.getElem_toArray, List.getElem_cons_succ, List.getElem_cons_zero, List.setIfInBounds_toArray, List.set_cons_zero, List.set_cons_succ])
            refine wpAnyG_one 4 (by kernel_rfl) rfl (by rfl) (fun K hK => ?_)
            go_simp
            go_at_call 23
            refine (sign_e (HX.out _ (XC.out.trans gS)) HZ1.out).mono ?_
            rintro _ s1 ⟨rfl, z1⟩
            have gS : Ext WC s1 := Ext.trans gS z1
            have f1 := gS
            (try go_wp2_with fail)
            refine hK.out _ _ (fun _ => gS) ?_
            clear hK K
            (try simp only [Act.put, List.getElem_toArray, List.getElem_cons_succ, List.getElem_cons_zero, List.setIfInBounds_toArray, List.set_cons_zero, List.set_cons_succ])
            refine wpAnyG_take 5 (v := ?_) rfl (by kernel_rfl) (by kernel_rfl) (by kernel_rfl) (by kernel_rfl) (by rfl) (by kernel_rfl) (fun _ _ _ h => h) (by rfl) (fun w' hw' => ?_) gS ?_
            rotate_left
            focus (go_simp; (try with_reducible rfl); done)
            (try simp only [Act.put, List.getElem_toArray, List.getElem_cons_succ, List.getElem_cons_zero, List.setIfInBounds_toArray, List.set_cons_zero, List.set_cons_succ])
            refine wpAnyG_take 6 (v := ?_) rfl (by kernel_rfl) (by kernel_rfl) (by kernel_rfl) (by kernel_rfl) (by rfl) (by kernel_rfl) (fun _ _ _ h => h) (by rfl) (fun w' hw' => ?_) gS ?_
            rotate_left
            focus (go_simp; (try with_reducible rfl); done)
            (try simp only [Act.put, List.getElem_toArray, List.getElem_cons_succ, List.getElem_cons_zero, List.setIfInBounds_toArray, List.set_cons_zero, List.set_cons_succ])
            refine wpAnyG_skip 7 rfl (by kernel_rfl) (by kernel_rfl) (by kernel_rfl) (by kernel_rfl) (by rfl) (by kernel_rfl) (fun _ _ _ h => h) (by rfl) gS ?_
            (try simp only [Act.put, List.getElem_toArray, List.getElem_cons_succ, List.getElem_cons_zero, List.setIfInBounds_toArray, List.set_cons_zero, List.set_cons_succ])
            refine wpAnyG_skip 8 rfl (by kernel_rfl) (by kernel_rfl) (by kernel_rfl) (by kernel_rfl) (by rfl) (by kernel_rfl) (fun _ _ _ h => h) (by rfl) gS ?_
            (try simp only [Act.put, List.getElem_toArray, List.getElem_cons_succ, List.getElem_cons_zero, List.setIfInBounds_toArray, List.set_cons_zero, List.set_cons_succ])
            refine wpAnyG_skip 9 rfl (by kernel_rfl) (by kernel_rfl) (by kernel_rfl) (by kernel_rfl) (by rfl) (by kernel_rfl) (fun _ _ _ h => h) (by rfl) gS ?_
            (try simp only [Act.put, List.getElem_toArray, List.getElem_cons_succ, List.getElem_cons_zero, List.setIfInBounds_toArray, List.set_cons_zero, List.set_cons_succ])
            refine wpAnyG_skip 10 rfl (by kernel_rfl) (by kernel_rfl) (by kernel_rfl) (by kernel_rfl) (by rfl) (by kernel_rfl) (fun _ _ _ h => h) (by rfl) gS ?_
            (try simp only [Act.put, List.getElem_toArray, List.getElem_cons_succ, List.getElem_cons_zero, List.setIfInBounds_toArray, List.set_cons_zero, List.set_cons_succ])
            refine wpAnyG_take 11 (v := ?_) rfl (by kernel_rfl) (by kernel_rfl) (by kernel_rfl) (by kernel_rfl) (by rfl) (by kernel_rfl) (fun _ _ _ h => h) (by rfl) (fun w' hw' => ?_) gS ?_
            rotate_left
            focus (go_simp; (try with_reducible rfl); done)
            (try simp only [Act.put, List.getElem_toArray, List.getElem_cons_succ, List.getElem_cons_zero, List.setIfInBounds_toArray, List.set_cons_zero, List.set_cons_succ])
            refine wpAnyG_take 12 (v := ?_) rfl (by kernel_rfl) (by kernel_rfl) (by kernel_rfl) (by kernel_rfl) (by rfl) (by kernel_rfl) (fun _ _ _ h => h) (by rfl) (fun w' hw' => ?_) gS ?_
            rotate_left
            focus (go_simp; (try with_reducible rfl); done)
            (try simp only [Act.put, List.getElem_toArray, List.getElem_cons_succ, List.getElem_cons_zero, List.setIfInBounds_toArray, List.set_cons_zero, List.set_cons_succ])
            refine wpAnyG_one 13 (by kernel_rfl) rfl (by rfl) (fun K hK => ?_)
            (try simp only [List.getElem_toArray, List.getElem_cons_succ, List.getElem_cons_zero])
            go_simp
            refine hK.out _ _ (fun h => absurd h (by decide)) ?_
            clear hK K
            (try simp only [Act.put, List.getElem_toArray, List.getElem_cons_succ, List.getElem_cons_zero, List.setIfInBounds_toArray, List.set_cons_zero, List.set_cons_succ])
            refine wpAnyG_done (by kernel_rfl) ?_ _
            go_wp2
            go_ret
            exact ⟨rfl, XC.out.trans f1⟩
          · have e1 : decide (x1 < 0) = false := decide_eq_false hs
            have e2 : decide (0 < x2) = true := decide_eq_true (by omega)
            clear hs hq'
            refine wp_region_G (fun w' => Ext WC w') [13] (by kernel_rfl) ?_
            have gS : Ext WC WC.drew := (Below.refl _ _).drew
            refine wpAnyG_take 0 (v := ?_) rfl (by kernel_rfl) (by kernel_rfl) (by kernel_rfl) (by kernel_rfl) (by rfl) (by kernel_rfl) (fun _ _ _ h => h) (by rfl) (fun w' hw' => ?_) gS ?_
            rotate_left
            focus (go_simp; (try with_reducible rfl); done)
            (try simp only [Act.put, List.getElem_toArray, List.getElem_cons_succ, List.getElem_cons_zero, List.setIfInBounds_toArray, List.set_cons_zero, List.set_cons_succ])
            refine wpAnyG_take 1 (v := ?_) rfl (by kernel_rfl) (by kernel_rfl) (by kernel_rfl) (by kernel_rfl) (by rfl) (by kernel_rfl) (fun _ _ _ h => h) (by rfl) (fun w' hw' => ?_) gS ?_
            rotate_left
            focus (go_simp; (try with_reducible rfl); done)
            (try simp only [Act.put, List.getElem_toArray, List.getElem_cons_succ, List.getElem_cons_zero, List.setIfInBounds_toArray, List.set_cons_zero, List.set_cons_succ])
            refine wpAnyG_take 2 (v := ?_) rfl (by kernel_rfl) (by kernel_rfl) (by kernel_rfl) (by kernel_rfl) (by rfl) (by kernel_rfl) (fun _ _ _ h => h) (by rfl) (fun w' hw' => ?_) gS ?_
            rotate_left
            focus (go_simp; (try with_reducible rfl); done)
            (try simp only [Act.put, List.getElem_toArray, List.getElem_cons_succ, List.getElem_cons_zero, List.setIfInBounds_toArray, List.set_cons_zero, List.set_cons_succ])
            refine wpAnyG_take 3 (v := ?_) rfl (by kernel_rfl) (by kernel_rfl) (by kernel_rfl) (by kernel_rfl) (by rfl) (by kernel_rfl) (fun _ _ _ h => h) (by rfl) (fun w' hw' => ?_) gS ?_
            rotate_left
            focus (have hh := HS.out _ hw'; go_split_ands; go_simp; (try with_reducible rfl); done)
            (try simp only [Act.put, List.getElem_toArray, List.getElem_cons_succ, List.getElem_cons_zero, List.setIfInBounds_toArray, List.set_cons_zero, List.set_cons_succ])
            refine wpAnyG_one 4 (by kernel_rfl) rfl (by rfl) (fun K hK => ?_)
            go_simp
            go_at_call 23
            refine (sign_e (HX.out _ (XC.out.trans gS)) HZ1.out).mono ?_
            rintro _ s1 ⟨rfl, z1⟩
            have gS : Ext WC s1 := Ext.trans gS z1
            (try go_wp2_with fail)
            refine hK.out _ _ (fun _ => gS) ?_
            clear hK K
            (try simp only [Act.put, List.getElem_toArray, List.getElem_cons_succ, List.getElem_cons_zero, List.setIfInBounds_toArray, List.set_cons_zero, List.set_cons_succ])
            refine wpAnyG_take 5 (v := ?_) rfl (by kernel_rfl) (by kernel_rfl) (by kernel_rfl) (by kernel_rfl) (by rfl) (by kernel_rfl) (fun _ _ _ h => h) (by rfl) (fun w' hw' => ?_) gS ?_
            rotate_left
            focus (go_simp; (try with_reducible rfl); done)
            (try simp only [Act.put, List.getElem_toArray, List.getElem_cons_succ, List.getElem_cons_zero, List.setIfInBounds_toArray, List.set_cons_zero, List.set_cons_succ])
            refine wpAnyG_take 6 (v := ?_) rfl (by kernel_rfl) (by kernel_rfl) (by kernel_rfl) (by kernel_rfl) (by rfl) (by kernel_rfl) (fun _ _ _ h => h) (by rfl) (fun w' hw' => ?_) gS ?_
            rotate_left
            focus (go_simp; (try with_reducible rfl); done)
            (try simp only [Act.put, List.getElem_toArray, List.getElem_cons_succ, List.getElem_cons_zero, List.setIfInBounds_toArray, List.set_cons_zero, List.set_cons_succ])
            refine wpAnyG_take 7 (v := ?_) rfl (by kernel_rfl) (by kernel_rfl) (by kernel_rfl) (by kernel_rfl) (by rfl) (by kernel_rfl) (fun _ _ _ h => h) (by rfl) (fun w' hw' => ?_) gS ?_
            rotate_left
            focus (have hh := HS.out _ hw'; go_split_ands; go_simp; (try with_reducible rfl); done)
            (try simp only [Act.put, List.getElem_toArray, List.getElem_cons_succ, List.getElem_cons_zero, List.setIfInBounds_toArray, List.set_cons_zero, List.set_cons_succ])
            refine wpAnyG_one 8 (by kernel_rfl) rfl (by rfl) (fun K hK => ?_)
            go_simp
            go_at_call 13
            refine (fof_n (n := 1) (d := 1) (by omega) (by omega)).mono ?_
            rintro _ s3 ⟨b3, A3, k3, c3, B3, l3, d3, rfl, h3, z3, _, _⟩
            have h3 : FracV s3 b3 (.slice A3 k3 c3) (.slice B3 l3 d3) one1 := h3
            have gS : Ext WC s3 := Ext.trans gS z3
            (try go_wp2_with fail)
            refine hK.out _ _ (fun _ => gS) ?_
            clear hK K
            (try simp only [Act.put, List.getElem_toArray, List.getElem_cons_succ, List.getElem_cons_zero, List.setIfInBounds_toArray, List.set_cons_zero, List.set_cons_succ])
            refine wpAnyG_one 9 (by kernel_rfl) rfl (by rfl) (fun K hK => ?_)
            (try simp only [List.getElem_toArray, List.getElem_cons_succ, List.getElem_cons_zero])
            go_simp
            go_at_call 14
            refine (cmp_e (HX.out _ (XC.out.trans gS)) (FracV.any h3 one1_fb (by omega)) (by omega) HZ2.out).mono ?_
            rintro _ s4 ⟨rfl, z4⟩
            have gS : Ext WC s4 := Ext.trans gS z4
            have f1 := gS
            (try go_wp2_with fail)
            refine hK.out _ _ (fun _ => gS) ?_
            clear hK K
            (try simp only [Act.put, List.getElem_toArray, List.getElem_cons_succ, List.getElem_cons_zero, List.setIfInBounds_toArray, List.set_cons_zero, List.set_cons_succ])
            refine wpAnyG_take 10 (v := ?_) rfl (by kernel_rfl) (by kernel_rfl) (by kernel_rfl) (by kernel_rfl) (by rfl) (by kernel_rfl) (fun _ _ _ h => h) (by rfl) (fun w' hw' => ?_) gS ?_
            rotate_left
            focus (go_simp; (try with_reducible rfl); done)
            (try simp only [Act.put, List.getElem_toArray, List.getElem_cons_succ, List.getElem_cons_zero, List.setIfInBounds_toArray, List.set_cons_zero, List.set_cons_succ])
            refine wpAnyG_take 11 (v := ?_) rfl (by kernel_rfl) (by kernel_rfl) (by kernel_rfl) (by kernel_rfl) (by rfl) (by kernel_rfl) (fun _ _ _ h => h) (by rfl) (fun w' hw' => ?_) gS ?_
            rotate_left
            focus (go_simp; (try with_reducible rfl); done)
            (try simp only [Act.put, List.getElem_toArray, List.getElem_cons_succ, List.getElem_cons_zero, List.setIfInBounds_toArray, List.set_cons_zero, List.set_cons_succ])
            refine wpAnyG_take 12 (v := ?_) rfl (by kernel_rfl) (by kernel_rfl) (by kernel_rfl) (by kernel_rfl) (by rfl) (by kernel_rfl) (fun _ _ _ h => h) (by rfl) (fun w' hw' => ?_) gS ?_
            rotate_left
            focus (go_simp; (try with_reducible rfl); done)
            (try simp only [Act.put, List.getElem_toArray, List.getElem_cons_succ, List.getElem_cons_zero, List.setIfInBounds_toArray, List.set_cons_zero, List.set_cons_succ])
            refine wpAnyG_one 13 (by kernel_rfl) rfl (by rfl) (fun K hK => ?_)
            (try simp only [List.getElem_toArray, List.getElem_cons_succ, List.getElem_cons_zero])
            go_simp
            refine hK.out _ _ (fun h => absurd h (by decide)) ?_
            clear hK K
            (try simp only [Act.put, List.getElem_toArray, List.getElem_cons_succ, List.getElem_cons_zero, List.setIfInBounds_toArray, List.set_cons_zero, List.set_cons_succ])
            refine wpAnyG_done (by kernel_rfl) ?_ _
            go_wp2
            go_ret
            exact ⟨rfl, XC.out.trans f1⟩
        · subst hve hvn
          have hN30 : N ≤ 30 := by omega
          obtain ⟨mq, z, hm, hz, hfb, hcl⟩ := mean_cmp (E := E) (n := N) q dq hN30 hE1
          have hzz := enP_t hT HDQ.out hm hz
          have e1 : decide (0 ≤ z) = true := decide_eq_true hzz
          have HZ := Lib.hid hz
          have HM := Lib.hid hcl
          have HFM := Lib.hid hfb
          clear hz hcl hfb hm hT hzz
          rcases Nat.eq_zero_or_pos N with hN0 | hN0
          · subst hN0
            clear hF hN
            go_upto_region 19 with (go_at_call 26; (with_reducible refine (rin_t (by omega) (by omega)).mono ?_); rintro e wz ⟨rfl, hwz⟩; obtain rfl : WC = wz := hwz.symm)
            go_wp2_with fail
            refine (HM.out _ (HT.out _ XC.out)).mono ?_
            rintro e w2 ⟨b2, A2, k2, c2, A2', k2', c2', rfl, h2, y2, n2, n2'⟩
            clear n2 n2'
            go_upto_region 20 with (fail)
            have hG2 := FBox.new w2 (.bool b2) (.slice A2 k2 c2) (.slice A2' k2' c2') 28
            have Y2 : Ext WC (w2.alloc (.cells #[.bool b2, .slice A2 k2 c2, .slice A2' k2' c2'] 28)) := ext_alloc y2 _
            have h2 := h2.below (ext_alloc (Below.refl _ _) (.cells #[.bool b2, .slice A2 k2 c2, .slice A2' k2' c2'] 28))
            have hsz2 : w2.heap.size < (w2.alloc (.cells #[.bool b2, .slice A2 k2 c2, .slice A2' k2' c2'] 28)).heap.size := by simp
            generalize w2.alloc (.cells #[.bool b2, .slice A2 k2 c2, .slice A2' k2' c2'] 28) = W2 at *
            generalize w2.heap.size = B2 at *
            have HG2 := Lib.hid (fun (w' : World) (h : Ext W2 w') => hG2.below h)
            have HP2 := Lib.hid (fun (w' : World) (h : Ext W2 w') => FracV.any (h2.below h) (HFM.out) (by omega))
            have HB2 := Lib.hid (fun (w' : World) (h : Ext W2 w') => h2.below h)
            clear hG2 h2 y2 hsz2
            obtain ⟨p0, p1, p2, _, _, _⟩ := HG2.out _ (Below.refl _ _)
            obtain ⟨q0, q1, q2, _, _, _⟩ := HGH.out _ Y2
            go_wp2_with (go_at_call 14; (with_reducible refine (cmp_e (HP2.out _ (Below.refl _ _)) (HPH.out _ Y2) (by omega) HZ.out).mono ?_); rintro e s4 ⟨rfl, z4⟩)
            go_ret
            exact ⟨rfl, XC.out.trans (Y2.trans z4)⟩
          · obtain ⟨k, rfl⟩ : ∃ k, N = k + 1 := ⟨N - 1, by omega⟩
            obtain ⟨mk, zk, hm, hz, hfb, hcl⟩ := mean_cmp (E := E) (n := k) q dq (by omega) hE1
            have hzz := enP_f (hF k (by omega)) HDQ.out hm hz
            have e2 : decide (0 ≤ zk) = false := decide_eq_false hzz
            have HZK := Lib.hid hz
            have HMK := Lib.hid hcl
            have HFK := Lib.hid hfb
            have hwk : IntKind.i64.wrap (((k + 1 : Nat) : Int) - 1) = (k : Int) := by rw [wrap_in (by omega)]; omega
            have hwk2 : IntKind.i64.wrap ((k : Int) + 1 - 1) = (k : Int) := by rw [wrap_in (by omega)]; omega
            have hgt : (0 : Int) < ((k + 1 : Nat) : Int) := by omega
            have hgt2 : (0 : Int) < (k : Int) + 1 := by omega
            have hne : ¬ ((k + 1 : Nat) : Int) = 31 := by omega
            have hne2 : ¬ ((k : Int) + 1 = 31) := by omega
            clear hz hcl hfb hm hF hzz
            have HM' := Lib.hid (fun (w' : World) (h : Tab10 w') => (show Calls Tryd.prog 11 #[.int .i64 ((k : Int) + 1), .int .i64 E] w' (GivesFE w' mq) from by
              have h0 := HM.out w' h
              rw [show ((k + 1 : Nat) : Int) = (k : Int) + 1 from by omega] at h0
              exact h0))
            go_upto_region 14 with (go_at_call 26; (with_reducible refine (rin_t (by omega) (by omega)).mono ?_); rintro e wz ⟨rfl, hwz⟩; obtain rfl : WC = wz := hwz.symm)
            go_wp2_with fail
            refine (HMK.out _ (HT.out _ XC.out)).mono ?_
            rintro e w1 ⟨b1, A1, k1, c1, A1', k1', c1', rfl, h1, y1, n1, n1'⟩
            clear n1 n1'
            go_upto_region 15 with (fail)
            have hG1 := FBox.new w1 (.bool b1) (.slice A1 k1 c1) (.slice A1' k1' c1') 28
            have Y1 : Ext WC (w1.alloc (.cells #[.bool b1, .slice A1 k1 c1, .slice A1' k1' c1'] 28)) := ext_alloc y1 _
            have h1 := h1.below (ext_alloc (Below.refl _ _) (.cells #[.bool b1, .slice A1 k1 c1, .slice A1' k1' c1'] 28))
            have hsz1 : w1.heap.size < (w1.alloc (.cells #[.bool b1, .slice A1 k1 c1, .slice A1' k1' c1'] 28)).heap.size := by simp
            generalize w1.alloc (.cells #[.bool b1, .slice A1 k1 c1, .slice A1' k1' c1'] 28) = W1 at *
            generalize w1.heap.size = B1 at *
            have HG1 := Lib.hid (fun (w' : World) (h : Ext W1 w') => hG1.below h)
            have HP1 := Lib.hid (fun (w' : World) (h : Ext W1 w') => FracV.any (h1.below h) (HFK.out) (by omega))
            have HB1 := Lib.hid (fun (w' : World) (h : Ext W1 w') => h1.below h)
            clear hG1 h1 y1 hsz1
            obtain ⟨p0, p1, p2, _, _, _⟩ := HG1.out _ (Below.refl _ _)
            obtain ⟨q0, q1, q2, _, _, _⟩ := HGH.out _ Y1
            go_upto_region 19 with (go_at_call 14; (with_reducible refine (cmp_e (HP1.out _ (Below.refl _ _)) (HPH.out _ Y1) (by omega) HZK.out).mono ?_); rintro e s3 ⟨rfl, z3⟩)
            go_wp2_with fail
            refine (HM'.out _ (HT.out _ (XC.out.trans (Y1.trans z3)))).mono ?_
            rintro e w2 ⟨b2, A2, k2, c2, A2', k2', c2', rfl, h2, y2, n2, n2'⟩
            clear n2 n2'
            go_upto_region 20 with (fail)
            have hG2 := FBox.new w2 (.bool b2) (.slice A2 k2 c2) (.slice A2' k2' c2') 28
            have Y2 : Ext s3 (w2.alloc (.cells #[.bool b2, .slice A2 k2 c2, .slice A2' k2' c2'] 28)) := ext_alloc y2 _
            have h2 := h2.below (ext_alloc (Below.refl _ _) (.cells #[.bool b2, .slice A2 k2 c2, .slice A2' k2' c2'] 28))
            have hsz2 : w2.heap.size < (w2.alloc (.cells #[.bool b2, .slice A2 k2 c2, .slice A2' k2' c2'] 28)).heap.size := by simp
            generalize w2.alloc (.cells #[.bool b2, .slice A2 k2 c2, .slice A2' k2' c2'] 28) = W2 at *
            generalize w2.heap.size = B2 at *
            have HG2 := Lib.hid (fun (w' : World) (h : Ext W2 w') => hG2.below h)
            have HP2 := Lib.hid (fun (w' : World) (h : Ext W2 w') => FracV.any (h2.below h) (HFM.out) (by omega))
            have HB2 := Lib.hid (fun (w' : World) (h : Ext W2 w') => h2.below h)
            clear hG2 h2 y2 hsz2
            obtain ⟨p0, p1, p2, _, _, _⟩ := HG2.out _ (Below.refl _ _)
            obtain ⟨q0, q1, q2, _, _, _⟩ := HGH.out _ (Y1.trans (z3.trans Y2))
            go_wp2_with (go_at_call 14; (with_reducible refine (cmp_e (HP2.out _ (Below.refl _ _)) (HPH.out _ (Y1.trans (z3.trans Y2))) (by omega) HZ.out).mono ?_); rintro e s4 ⟨rfl, z4⟩)
            go_ret
            exact ⟨rfl, XC.out.trans (Y1.trans (z3.trans (Y2.trans z4)))⟩
        · subst hve hvn
          obtain ⟨mk, zk, hm, hz, hfb, hcl⟩ := mean_cmp (E := E) (n := 30) q dq (by omega) hE1
          have hzz := enP_f (hF 30 (by omega)) HDQ.out hm hz
          have e2 : decide (0 ≤ zk) = false := decide_eq_false hzz
          have HZK := Lib.hid hz
          have HMK := Lib.hid (fun (w' : World) (h : Tab10 w') => (show Calls Tryd.prog 11 #[.int .i64 30, .int .i64 E] w' (GivesFE w' mk) from hcl w' h))
          have HFK := Lib.hid hfb
          have hw30 : IntKind.i64.wrap (31 - 1) = 30 := by rw [wrap_in (by omega)]; rfl
          clear hz hcl hfb hm hF hzz
          go_upto_region 14 with (go_at_call 26; (with_reducible refine (rin_t (by omega) (by omega)).mono ?_); rintro e wz ⟨rfl, hwz⟩; obtain rfl : WC = wz := hwz.symm)
          go_wp2_with fail
          refine (HMK.out _ (HT.out _ XC.out)).mono ?_
          rintro e w1 ⟨b1, A1, k1, c1, A1', k1', c1', rfl, h1, y1, n1, n1'⟩
          clear n1 n1'
          go_upto_region 15 with (fail)
          have hG1 := FBox.new w1 (.bool b1) (.slice A1 k1 c1) (.slice A1' k1' c1') 28
          have Y1 : Ext WC (w1.alloc (.cells #[.bool b1, .slice A1 k1 c1, .slice A1' k1' c1'] 28)) := ext_alloc y1 _
          have h1 := h1.below (ext_alloc (Below.refl _ _) (.cells #[.bool b1, .slice A1 k1 c1, .slice A1' k1' c1'] 28))
          have hsz1 : w1.heap.size < (w1.alloc (.cells #[.bool b1, .slice A1 k1 c1, .slice A1' k1' c1'] 28)).heap.size := by simp
          generalize w1.alloc (.cells #[.bool b1, .slice A1 k1 c1, .slice A1' k1' c1'] 28) = W1 at *
          generalize w1.heap.size = B1 at *
          have HG1 := Lib.hid (fun (w' : World) (h : Ext W1 w') => hG1.below h)
          have HP1 := Lib.hid (fun (w' : World) (h : Ext W1 w') => FracV.any (h1.below h) (HFK.out) (by omega))
          have HB1 := Lib.hid (fun (w' : World) (h : Ext W1 w') => h1.below h)
          clear hG1 h1 y1 hsz1
          obtain ⟨p0, p1, p2, _, _, _⟩ := HG1.out _ (Below.refl _ _)
          obtain ⟨q0, q1, q2, _, _, _⟩ := HGH.out _ Y1
          go_wp2_with (go_at_call 14; (with_reducible refine (cmp_e (HP1.out _ (Below.refl _ _)) (HPH.out _ Y1) (by omega) HZK.out).mono ?_); rintro e s3 ⟨rfl, z3⟩)
          go_ret
          exact ⟨rfl, XC.out.trans (Y1.trans z3)⟩
    · have ed : decide ((3 : Int) < (dl : Int)) = true := decide_eq_true (by omega)
      have ed' : 3 < dl := by omega
      clear hf1 hf2 hs hd
      go_enter Tryd.func8, Tryd.ntmps8
      go_upto_region 1 with (fail)
      have hB0 := FBox.new w (.bool ng) (.slice A nl c) (.slice A' dl c') 28
      have x0 : Ext w (w.alloc (.cells #[.bool ng, .slice A nl c, .slice A' dl c'] 28)) := ext_alloc (Below.refl _ _) _
      have hs0 : w.heap.size + 1 ≤ (w.alloc (.cells #[.bool ng, .slice A nl c, .slice A' dl c'] 28)).heap.size := by simp
      generalize (w.alloc (.cells #[.bool ng, .slice A nl c, .slice A' dl c'] 28)) = W0 at *
      have HB0 := Lib.hid (fun (w' : World) (h : Ext W0 w') => hB0.below h)
      obtain ⟨c00, c01, c02, d00, d01, d02⟩ := hB0
      have HE := Lib.hid x0
      clear x0
      have f0 : Ext W0 W0 := Below.refl _ _
      go_wp2_with fail
      refine (sawake (HT.out _ HE.out)).mono ?_
      rintro e U1 ⟨rfl, y1⟩
      obtain ⟨c00, c01, c02, _, _, _⟩ := HB0.out _ y1
      go_wp2_with fail
      refine (sawake (HT.out _ (HE.out.trans y1))).mono ?_
      rintro e U2 ⟨rfl, y2⟩
      go_wp2
      go_ret
      exact ⟨rfl, HE.out.trans (y1.trans y2)⟩
  · have en : decide ((3 : Int) < (nl : Int)) = true := decide_eq_true (by omega)
    have en' : 3 < nl := by omega
    clear hf1 hs hd
    go_enter Tryd.func8, Tryd.ntmps8
    go_upto_region 1 with (fail)
    have hB0 := FBox.new w (.bool ng) (.slice A nl c) (.slice A' dl c') 28
    have x0 : Ext w (w.alloc (.cells #[.bool ng, .slice A nl c, .slice A' dl c'] 28)) := ext_alloc (Below.refl _ _) _
    have hs0 : w.heap.size + 1 ≤ (w.alloc (.cells #[.bool ng, .slice A nl c, .slice A' dl c'] 28)).heap.size := by simp
    generalize (w.alloc (.cells #[.bool ng, .slice A nl c, .slice A' dl c'] 28)) = W0 at *
    have HB0 := Lib.hid (fun (w' : World) (h : Ext W0 w') => hB0.below h)
    obtain ⟨c00, c01, c02, d00, d01, d02⟩ := hB0
    have HE := Lib.hid x0
    clear x0
    have f0 : Ext W0 W0 := Below.refl _ _
    go_wp2_with fail
    refine (sawake (HT.out _ HE.out)).mono ?_
    rintro e U1 ⟨rfl, y1⟩
    obtain ⟨c00, c01, c02, _, _, _⟩ := HB0.out _ y1
    go_wp2_with fail
    refine (sawake (HT.out _ (HE.out.trans y1))).mono ?_
    rintro e U2 ⟨rfl, y2⟩
    go_wp2
    go_ret
    exact ⟨rfl, HE.out.trans (y1.trans y2)⟩

end Go.Proofs.YtnedgbebajhcpaaDoor
