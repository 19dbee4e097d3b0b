/- The walk of WholeConfidence. -/
import Derived.Test.YtjdpkmngboiemaaDoorConC
import Derived.Test.YtjdpkmngboiemaaDoorConL
import Derived.Test.YtjdpkmngboiemaaDoorTopA
import Derived.Test.YtjdpkmngboiemaaDoorWf
set_option linter.unusedVariables false
set_option linter.unusedSimpArgs false
set_option maxRecDepth 100000
namespace Go.Proofs.YtjdpkmngboiemaaDoor
open Go.RowKit Num

/-- What has been summed: the chances of what accepts. -/
def covF (n D : Nat) (q : Rat) : Nat → Rat := fun d => if Acc n d D (q / 2) then pch n D d else 0
theorem covF_in {n D d : Nat} {q : Rat} (h : Acc n d D (q / 2)) : sumQ (covF n D q) (d + 1) = sumQ (covF n D q) d + pch n D d := by
  rw [sumQ_succ]
  unfold covF
  rw [if_pos h]
theorem covF_out {n D d : Nat} {q : Rat} (h : ¬ Acc n d D (q / 2)) : sumQ (covF n D q) (d + 1) = sumQ (covF n D q) d := by
  rw [sumQ_succ]
  unfold covF
  rw [if_neg h, Rat.add_zero]
theorem covF_one {n D : Nat} {q : Rat} (hn : 1 ≤ n) : sumQ (covF n D q) 1 = 0 := by
  have hp : pch n D 0 = 0 := by
    obtain ⟨m, rfl⟩ : ∃ m, n = m + 1 := ⟨n - 1, by omega⟩
    unfold pch
    rw [occ_step_zero, Rat.div_def]
    exact Rat.zero_mul _
  show (0 : Rat) + covF n D q 0 = 0
  unfold covF
  rw [hp]
  split <;> exact Rat.add_zero 0
theorem pch_fb {n D d : Nat} (hn : n ≤ 30) (hD : D ≤ 60) : FB (pch n D d) 130 := by
  have h := pchI_fbC (n := n) (D := D) hn hD (d : Int)
  unfold pchI at h
  rwa [if_neg (by omega), Int.toNat_natCast] at h
theorem covF_fb {n D k : Nat} {q : Rat} (hn : n ≤ 30) (hD : D ≤ 60) (hk : k ≤ 31) : FB (sumQ (covF n D q) k) 4100 :=
  (sumQ_fb (L := 130) fun j _ => by
    unfold covF
    split
    · exact pch_fb hn hD
    · exact fb_zero.mono (by omega)).mono (by omega)

theorem u8_of_wfC {a : Int} (h : (Lit.int .u8 a).wf = true) : 0 ≤ a ∧ a ≤ 255 := by
  simp [Lit.wf, IntKind.min, IntKind.max, IntKind.signed, IntKind.bits] at h
  omega
theorem FIs.ext {W wr w' : World} {b : Nat} {q : Rat} (h : FIs W wr b q) (hx : Ext wr w') : FIs W w' b q := by
  obtain ⟨c, A, k, l, A', k', l', h1, h2, h3, h4, h5⟩ := h
  exact ⟨c, A, k, l, A', k', l', h1.below hx, h2.below hx, h3.trans hx, h4, h5⟩
theorem Lvl.halfW {q : Rat} (h : Lvl q) : Lvl (q * half12) := by
  have e : half12 = 1 / 2 := by decide +kernel
  obtain ⟨h1, h2⟩ := h
  rw [e]
  constructor <;> grind
theorem Acc.halfW {n d D : Nat} {q : Rat} (hq : Lvl q) (h : Acc n d D (q / 2)) : Acc n d D (q * half12 / 2) := by
  refine h.mono ?_
  have e : half12 = 1 / 2 := by decide +kernel
  have h1 := hq.1
  rw [e]
  grind
theorem lvl_20 {A : Nat} (h1 : 1 ≤ A) (h2 : A ≤ 18) : Lvl (((A : Int) : Rat) / ((20 : Int) : Rat)) := by
  rw [Rat.intCast_natCast]
  have e : ((20 : Int) : Rat) = 20 := rfl
  rw [e, Rat.div_def]
  have g1 : (1 : Rat) ≤ (A : Rat) := by exact_mod_cast h1
  have g2 : (A : Rat) ≤ 18 := by exact_mod_cast h2
  constructor <;> grind

set_option maxHeartbeats 16000000 in
theorem law_WCon {n0 d0 l0 : Nat} {w : World} (hn : n0 ≤ 255) (hD : d0 ≤ 255) (hl : l0 ≤ 255) (ht : Tab10 w) :
    Calls Tryd.prog 3 #[.int .u8 n0, .int .u8 d0, .int .u8 l0] w (fun e w' => e = .returned (.bool true) ∧ Ext w w') := by
  have HT := Lib.hid (fun (w' : World) (h : Ext w w') => ht.ext h)
  obtain ⟨K, hK⟩ : ∃ K : Nat, K = 1 + n0 % 8 := ⟨_, rfl⟩
  obtain ⟨D, hDD⟩ : ∃ D : Nat, D = 1 + d0 % 12 := ⟨_, rfl⟩
  obtain ⟨A, hA⟩ : ∃ A : Nat, A = 1 + l0 % 18 := ⟨_, rfl⟩
  have hK8 : 1 ≤ K ∧ K ≤ 8 := by omega
  have hD12 : 1 ≤ D ∧ D ≤ 12 := by omega
  have hA18 : 1 ≤ A ∧ A ≤ 18 := by omega
  have hv1 : IntKind.i64.wrap (n0 : Int) = (n0 : Int) := wrap_in (by omega)
  have hv2 : IntKind.i64.wrap (d0 : Int) = (d0 : Int) := wrap_in (by omega)
  have hv3 : IntKind.i64.wrap (l0 : Int) = (l0 : Int) := wrap_in (by omega)
  have hr1 : (n0 : Int) % 8 = (K : Int) - 1 := by omega
  have hr2 : (d0 : Int) % 12 = (D : Int) - 1 := by omega
  have hr3 : (l0 : Int) % 18 = (A : Int) - 1 := by omega
  have hr1' : (n0 : Int).tmod 8 = (K : Int) - 1 := by rw [Int.tmod_eq_emod_of_nonneg (by omega)]; omega
  have hr2' : (d0 : Int).tmod 12 = (D : Int) - 1 := by rw [Int.tmod_eq_emod_of_nonneg (by omega)]; omega
  have hr3' : (l0 : Int).tmod 18 = (A : Int) - 1 := by rw [Int.tmod_eq_emod_of_nonneg (by omega)]; omega
  have hw1 : IntKind.i64.wrap (1 + ((K : Int) - 1)) = (K : Int) := by rw [wrap_in (by omega)]; omega
  have hw2 : IntKind.i64.wrap (1 + ((D : Int) - 1)) = (D : Int) := by rw [wrap_in (by omega)]; omega
  have hw3 : IntKind.i64.wrap (1 + ((A : Int) - 1)) = (A : Int) := by rw [wrap_in (by omega)]; omega
  clear hK hDD hA
  have HLQ := Lib.hid (lvl_20 hA18.1 hA18.2)
  have HFQ := Lib.hid (show FB (((A : Int) : Rat) / ((20 : Int) : Rat)) 3 from fb_i64 (by omega) (by omega))
  go_enter Tryd.func3, Tryd.ntmps3
  go_wp2_with fail
  refine (topawake ht).mono ?_
  rintro e W0 ⟨rfl, V0⟩
  clear ht
  go_wp2_with fail
  refine (fof_n (n := (A : Int)) (d := 20) (by omega) (by omega)).mono ?_
  rintro e w5 ⟨b5, A5, k5, c5, A5', k5', c5', rfl, h5, y5, n5, n5'⟩
  obtain ⟨q, hq⟩ : ∃ q, q = ((A : Int) : Rat) / ((20 : Int) : Rat) := ⟨_, rfl⟩
  rw [← hq] at h5 HLQ HFQ
  clear hq n5 n5'
  go_upto_region 6 with (fail)
  have hG5 := FBox.new w5 (.bool b5) (.slice A5 k5 c5) (.slice A5' k5' c5') 27
  have Y5 : Ext W0 (w5.alloc (.cells #[.bool b5, .slice A5 k5 c5, .slice A5' k5' c5'] 27)) := ext_alloc y5 _
  have h5 := h5.below (ext_alloc (Below.refl _ _) (.cells #[.bool b5, .slice A5 k5 c5, .slice A5' k5' c5'] 27))
  have hsz5 : w5.heap.size < (w5.alloc (.cells #[.bool b5, .slice A5 k5 c5, .slice A5' k5' c5'] 27)).heap.size := by simp
  generalize w5.alloc (.cells #[.bool b5, .slice A5 k5 c5, .slice A5' k5' c5'] 27) = W5 at *
  generalize w5.heap.size = B5 at *
  have HG5 := Lib.hid (fun (w' : World) (h : Ext W5 w') => hG5.below h)
  have HXV := Lib.hid (fun (w' : World) (h : Ext W5 w') => FracV.any (h5.below h) HFQ.out (by omega))
  have HS := Lib.hid (fun (w' : World) (h : Ext W5 w') => (⟨(hG5.below h).1, (hG5.below h).2.1, (hG5.below h).2.2.1⟩ : w'.cell? ⟨B5, 0, none⟩ = some (.bool b5) ∧ w'.cell? ⟨B5, 1, none⟩ = some (.slice A5 k5 c5) ∧ w'.cell? ⟨B5, 2, none⟩ = some (.slice A5' k5' c5')))
  have V5 : Ext w W5 := V0.trans Y5
  clear hG5 h5 y5 hsz5
  go_cut [10] (fun mv wx => FBoxAt W5 wx mv (q * half12))
  case first =>
    refine wp_region_G (fun w' => Ext W5 w') [4] (by kernel_rfl) ?_
    have gS : Ext W5 W5.drew := (Below.refl _ _).drew
    refine wpAnyG_take 0 (v := ?_) rfl (by kernel_rfl) (by kernel_rfl) (by kernel_rfl) (by kernel_rfl) (by rfl) (by kernel_rfl) (fun _ _ _ h => h) (by rfl) (fun w' hw' => ?_) gS ?_
    rotate_left
    focus (have hh := HS.out _ hw'; go_split_ands; go_simp; (try with_reducible rfl); done)
    (try simp only [Act.put, List.getElem_toArray, List.getElem_cons_succ, List.getElem_cons_zero, List.setIfInBounds_toArray, List.set_cons_zero, List.set_cons_succ])
    refine wpAnyG_two 1 3 (by kernel_rfl) rfl rfl (by rfl) (by rfl) (fun K hK => ?_) (fun K hK => ?_)
    · go_simp
      go_at_call 9
      refine (fof_n (n := 1) (d := 2) (by omega) (by omega)).mono ?_
      rintro _ s1 ⟨b4, A4', k4', c4', B4', l4, d4, rfl, h4, z4, _⟩
      have h4 : FracV s1 b4 (.slice A4' k4' c4') (.slice B4' l4 d4) half12 := h4
      have gS : Ext W5 s1 := Ext.trans gS z4
      have hgb := gS.size
      have HH4 := Lib.hid (fun (w' : World) (h : Ext s1 w') => FracV.any (h4.below h) half12_fb (by omega))
      (try go_wp2_with fail)
      refine hK.out _ _ (fun _ => gS) ?_
      clear hK K
      (try simp only [Act.put, List.getElem_toArray, List.getElem_cons_succ, List.getElem_cons_zero, List.setIfInBounds_toArray, List.set_cons_zero, List.set_cons_succ])
      refine wpAnyG_two 2 3 (by kernel_rfl) rfl rfl (by rfl) (by rfl) (fun K hK => ?_) (fun K hK => ?_)
      · go_simp
        go_at_call 10
        refine (mul_f (HXV.out _ gS) (HH4.out _ (Below.refl _ _)) (by omega)).mono ?_
        rintro _ s2 ⟨b6, A6', k6', c6', B6', l6, d6, rfl, h6, z6, n6, m6⟩
        have gS : Ext W5 s2 := Ext.trans gS z6
        have gg := gS
        (try go_wp2_with fail)
        refine hK.out _ _ (fun _ => gS) ?_
        clear hK K
        (try simp only [Act.put, List.getElem_toArray, List.getElem_cons_succ, List.getElem_cons_zero, List.setIfInBounds_toArray, List.set_cons_zero, List.set_cons_succ])
        refine wpAnyG_one 3 (by kernel_rfl) rfl (by rfl) (fun K hK => ?_)
        go_simp
        have gS := ext_alloc gS (.cells #[.bool false, .slice none 0 0, .slice none 0 0] 27)
        (try go_wp2_with fail)
        refine hK.out _ _ (fun _ => gS) ?_
        clear hK K
        (try simp only [Act.put, List.getElem_toArray, List.getElem_cons_succ, List.getElem_cons_zero, List.setIfInBounds_toArray, List.set_cons_zero, List.set_cons_succ])
        refine wpAnyG_one 4 (by kernel_rfl) rfl (by rfl) (fun K hK => ?_)
        go_simp
        refine hK.out _ _ (fun h => absurd h (by decide)) ?_
        clear hK K
        (try simp only [Act.put, List.getElem_toArray, List.getElem_cons_succ, List.getElem_cons_zero, List.setIfInBounds_toArray, List.set_cons_zero, List.set_cons_succ])
        refine wpAnyG_done (by kernel_rfl) ?_ _
        go_wp2
        go_meet
        refine ⟨_, b6, A6', k6', c6', B6', l6, d6, rfl, ?_, FBox.new _ _ _ _ _, h6.below (ext_alloc (Below.refl _ _) _), ext_alloc gg _⟩
        exact gg.size
      · go_simp
        have gS := ext_alloc gS (.cells #[.bool false, .slice none 0 0, .slice none 0 0] 27)
        have dF := FBox.new s1 (.bool false) (.slice none 0 0) (.slice none 0 0) 27
        (try go_wp2_with fail)
        refine hK.out _ _ (fun _ => gS) ?_
        clear hK K
        (try simp only [Act.put, List.getElem_toArray, List.getElem_cons_succ, List.getElem_cons_zero, List.setIfInBounds_toArray, List.set_cons_zero, List.set_cons_succ])
        refine wpAnyG_one 2 (by kernel_rfl) rfl (by rfl) (fun K hK => ?_)
        go_simp
        go_at_call 10
        refine (mul_f (HXV.out _ gS) (HH4.out _ (ext_alloc (Below.refl _ _) _)) (by omega)).mono ?_
        rintro _ s2 ⟨b6, A6', k6', c6', B6', l6, d6, rfl, h6, z6, n6, m6⟩
        have gS : Ext W5 s2 := Ext.trans gS z6
        have dF := dF.below z6
        have gg := gS
        obtain ⟨i0, i1, i2, j0, j1, j2⟩ := dF
        (try go_wp2_with fail)
        refine hK.out _ _ (fun _ => gS) ?_
        clear hK K
        (try simp only [Act.put, List.getElem_toArray, List.getElem_cons_succ, List.getElem_cons_zero, List.setIfInBounds_toArray, List.set_cons_zero, List.set_cons_succ])
        refine wpAnyG_one 4 (by kernel_rfl) rfl (by rfl) (fun K hK => ?_)
        go_simp
        refine hK.out _ _ (fun h => absurd h (by decide)) ?_
        clear hK K
        (try simp only [Act.put, List.getElem_toArray, List.getElem_cons_succ, List.getElem_cons_zero, List.setIfInBounds_toArray, List.set_cons_zero, List.set_cons_succ])
        refine wpAnyG_done (by kernel_rfl) ?_ _
        go_wp2
        go_meet
        refine ⟨_, b6, A6', k6', c6', B6', l6, d6, rfl, hgb, FBox.put ⟨i0, i1, i2, j0, j1, j2⟩ _ _ _, h6.put n6 m6 (by simp) _ _ _, ext_put gg hgb _ _ _⟩
    · go_simp
      have gS := ext_alloc gS (.cells #[.bool false, .slice none 0 0, .slice none 0 0] 27)
      have dF : FBox (W5.alloc (.cells #[.bool false, .slice none 0 0, .slice none 0 0] 27)).drew W5.heap.size (.bool false) (.slice none 0 0) (.slice none 0 0) := FBox.new W5 (.bool false) (.slice none 0 0) (.slice none 0 0) 27
      (try go_wp2_with fail)
      refine hK.out _ _ (fun _ => gS) ?_
      clear hK K
      (try simp only [Act.put, List.getElem_toArray, List.getElem_cons_succ, List.getElem_cons_zero, List.setIfInBounds_toArray, List.set_cons_zero, List.set_cons_succ])
      refine wpAnyG_one 1 (by kernel_rfl) rfl (by rfl) (fun K hK => ?_)
      go_simp
      go_at_call 9
      refine (fof_n (n := 1) (d := 2) (by omega) (by omega)).mono ?_
      rintro _ s1 ⟨b4, A4', k4', c4', B4', l4, d4, rfl, h4, z4, _⟩
      have h4 : FracV s1 b4 (.slice A4' k4' c4') (.slice B4' l4 d4) half12 := h4
      have hz4 := z4.size
      have gS : Ext W5 s1 := Ext.trans gS z4
      have dF := dF.below z4
      have HH4 := Lib.hid (fun (w' : World) (h : Ext s1 w') => FracV.any (h4.below h) half12_fb (by omega))
      (try go_wp2_with fail)
      refine hK.out _ _ (fun _ => gS) ?_
      clear hK K
      (try simp only [Act.put, List.getElem_toArray, List.getElem_cons_succ, List.getElem_cons_zero, List.setIfInBounds_toArray, List.set_cons_zero, List.set_cons_succ])
      refine wpAnyG_one 2 (by kernel_rfl) rfl (by rfl) (fun K hK => ?_)
      go_simp
      go_at_call 10
      refine (mul_f (HXV.out _ gS) (HH4.out _ (Below.refl _ _)) (by omega)).mono ?_
      rintro _ s2 ⟨b6, A6', k6', c6', B6', l6, d6, rfl, h6, z6, n6, m6⟩
      have gS : Ext W5 s2 := Ext.trans gS z6
      have dF := dF.below z6
      have gg := gS
      have hdl : W5.heap.size < s1.heap.size := by simp at hz4; omega
      obtain ⟨i0, i1, i2, j0, j1, j2⟩ := dF
      (try go_wp2_with fail)
      refine hK.out _ _ (fun _ => gS) ?_
      clear hK K
      (try simp only [Act.put, List.getElem_toArray, List.getElem_cons_succ, List.getElem_cons_zero, List.setIfInBounds_toArray, List.set_cons_zero, List.set_cons_succ])
      refine wpAnyG_one 4 (by kernel_rfl) rfl (by rfl) (fun K hK => ?_)
      go_simp
      refine hK.out _ _ (fun h => absurd h (by decide)) ?_
      clear hK K
      (try simp only [Act.put, List.getElem_toArray, List.getElem_cons_succ, List.getElem_cons_zero, List.setIfInBounds_toArray, List.set_cons_zero, List.set_cons_succ])
      refine wpAnyG_done (by kernel_rfl) ?_ _
      go_wp2
      go_meet
      refine ⟨_, b6, A6', k6', c6', B6', l6, d6, rfl, Nat.le_refl _, FBox.put ⟨i0, i1, i2, j0, j1, j2⟩ _ _ _, h6.put n6 m6 hdl _ _ _, ext_put gg (Nat.le_refl _) _ _ _⟩
  case rest =>
    obtain ⟨bm, bc, OA, ok, ol, OA', ok', ol', rfl, hbm, hM0, vM0, xC⟩ := hcut
    obtain ⟨WC, hWC⟩ : ∃ WC : World, WC = wc := ⟨_, rfl⟩
    subst hWC
    have HFH := Lib.hid (FB.mul HFQ.out half12_fb (by omega))
    have HGM := Lib.hid (fun (w' : World) (h : Ext WC w') => hM0.below h)
    have HPM := Lib.hid (fun (w' : World) (h : Ext WC w') => FracV.any (vM0.below h) HFH.out (by omega))
    clear hM0 vM0
    have VC : Ext w WC := V5.trans xC
    have HPC := Lib.hid (fun (d : Nat) => (show pchI K D (d : Int) = pch K D d from by unfold pchI; rw [if_neg (by omega), Int.toNat_natCast]))
    have HCH := Lib.hid (fun (d : Nat) (w' : World) => (show Calls Tryd.prog 12 #[.int .i64 K, .int .i64 D, .int .i64 d] w' (GivesFE w' (pch K D d)) from by have h0 := ochance_ok (n := K) (D := D) (d := (d : Int)) (w := w') (by omega) hD12.1 (by omega); rw [HPC.out] at h0; exact h0))
    have HAC := Lib.hid (fun (d : Nat) (g1 : 1 ≤ d) (g2 : d ≤ K) (w' : World) (h : Ext W5 w') => (show Calls Tryd.prog 11 #[.int .i64 K, .int .i64 d, .int .i64 D, .agg #[.bool b5, .slice A5 k5 c5, .slice A5' k5' c5']] w' (fun e w'' => e = .returned (.tuple #[.bool (decide (Acc K d D (q / 2))), .int .i64 0]) ∧ Ext w' w'') from by
      have h0 := kaccepts_any (n := (K : Int)) (d := (d : Int)) (D := (D : Int)) (HXV.out _ h) (by omega) (by omega) (HT.out _ (V5.trans h))
      have hdin : DIn K d D := din_of (by omega) ⟨g1, g2⟩ (by omega)
      rw [accE_ok hdin HLQ.out, accB_ok hdin HLQ.out] at h0
      exact h0))
    have HAM := Lib.hid (fun (d : Nat) (g1 : 1 ≤ d) (g2 : d ≤ K) (w' : World) (h : Ext WC w') => (show Calls Tryd.prog 11 #[.int .i64 K, .int .i64 d, .int .i64 D, .agg #[.bool bc, .slice OA ok ol, .slice OA' ok' ol']] w' (fun e w'' => e = .returned (.tuple #[.bool (decide (Acc K d D (q * half12 / 2))), .int .i64 0]) ∧ Ext w' w'') from by
      have h0 := kaccepts_any (n := (K : Int)) (d := (d : Int)) (D := (D : Int)) (HPM.out _ h) (by omega) (by omega) (HT.out _ (VC.trans h))
      have hdin : DIn K d D := din_of (by omega) ⟨g1, g2⟩ (by omega)
      rw [accE_ok hdin HLQ.out.halfW, accB_ok hdin HLQ.out.halfW] at h0
      exact h0))
    have HSE := Lib.hid (fun (d : Nat) (g1 : 1 ≤ d) (g2 : d ≤ K) (w' : World) (h : Ext W5 w') => (show Calls Tryd.prog 14 #[.int .i64 K, .int .i64 d, .int .i64 14, .agg #[.bool b5, .slice A5 k5 c5, .slice A5' k5' c5']] w' (GivesI w' (natsI (accL K d (q / 2) 14)) 0) from by
      have h0 := kset_any (n := (K : Int)) (d := (d : Int)) (m := ((14 : Nat) : Int)) (HXV.out _ h) (by omega) (by omega) (HT.out _ (V5.trans h))
      have hdin : DIn K d ((14 : Nat) : Int) := din_of (by omega) ⟨g1, g2⟩ (by omega)
      rw [accE_ok hdin HLQ.out, setL_ok hdin HLQ.out] at h0
      exact h0))
    have HFS := Lib.hid (fun (k : Nat) (hk : k ≤ 31) => covF_fb (n := K) (D := D) (q := q) (k := k) (by omega) (by omega) hk)
    have HFP := Lib.hid (fun (d : Nat) => pch_fb (n := K) (D := D) (d := d) (by omega) (by omega))
    have HEND := Lib.hid (show 0 ≤ cmpQ (sumQ (covF K D q) (K + 1)) (one1 - q) from by
      have h := covers (n := K) (D := D) (q := q) hK8.1 (by omega) (Rat.le_of_lt HLQ.out.1)
      have e : one1 = 1 := by decide +kernel
      have h2 : ¬ cmpQ (sumQ (covF K D q) (K + 1)) (one1 - q) < 0 := by
        rw [cmpQ_neg, e]
        have h3 : 1 ≤ sumQ (covF K D q) (K + 1) + q := h
        grind
      omega)
    go_wp2_with fail
    refine (fof_n (n := 0) (d := 1) (by omega) (by omega)).mono ?_
    rintro e w7 ⟨b7, A7, k7, c7, A7', k7', c7', rfl, h7, y7, n7, n7'⟩
    rw [zero_first, ← covF_one (n := K) (D := D) (q := q) hK8.1] at h7
    have hlo := y7.size
    go_upto_region 8 with (fail)
    have hG7 := FBox.new w7 (.bool b7) (.slice A7 k7 c7) (.slice A7' k7' c7') 27
    have Y7 : Ext WC (w7.alloc (.cells #[.bool b7, .slice A7 k7 c7, .slice A7' k7' c7'] 27)) := ext_alloc y7 _
    have h7 := h7.below (ext_alloc (Below.refl _ _) (.cells #[.bool b7, .slice A7 k7 c7, .slice A7' k7' c7'] 27))
    have hsz7 : w7.heap.size < (w7.alloc (.cells #[.bool b7, .slice A7 k7 c7, .slice A7' k7' c7'] 27)).heap.size := by simp
    generalize w7.alloc (.cells #[.bool b7, .slice A7 k7 c7, .slice A7' k7' c7'] 27) = W7 at *
    generalize w7.heap.size = B7 at *
    go_wp2
    go_loopw [12] (fun iv wr => ∃ s : Nat, s ≤ K ∧ iv = .int .i64 ((s : Int) + 1) ∧ FIs WC wr B7 (sumQ (covF K D q) (s + 1))) (fun iv _ => K + 1 - (intOf iv).toNat)
    case atStart => exact ⟨0, Nat.zero_le _, rfl, b7, A7, k7, c7, A7', k7', c7', hG7, h7, Y7, n7, n7'⟩
    case round =>
      clear hG7 h7 Y7 n7 n7' hsz7
      obtain ⟨s, hs, rfl, cc, MA, mk, ml, MA', mk', ml', hM, vM, xM, nM, nM'⟩ := hrel
      obtain ⟨c50, c51, c52, _, _, _⟩ := HG5.out _ (xC.trans xM)
      have HM2 := Lib.hid (fun (w' : World) (h : Ext wr w') => hM.below h)
      have HMV := Lib.hid (fun (w' : World) (h : Ext wr w') => vM.below h)
      have hMl := hM.lt
      have hX := xM
      clear vM
      by_cases hsK : s < K
      · have hb1 : (s : Int) + 1 ≤ (K : Int) := by omega
        have hw9 : IntKind.i64.wrap ((s : Int) + 1 + 1) = (s : Int) + 1 + 1 := wrap_in (by omega)
        have HKQ := Lib.hid (fun (w' : World) (h : Ext W5 w') => HAC.out (s + 1) (by omega) (by omega) w' h)
        have HKM := Lib.hid (fun (w' : World) (h : Ext WC w') => HAM.out (s + 1) (by omega) (by omega) w' h)
        have HKS := Lib.hid (fun (w' : World) (h : Ext W5 w') => HSE.out (s + 1) (by omega) (by omega) w' h)
        have HKC := Lib.hid (fun (w' : World) => HCH.out (s + 1) w')
        rw [show ((s + 1 : Nat) : Int) = (s : Int) + 1 from by omega] at HKQ HKC HKM HKS
        have HLH := Lib.hid (show decide ((D : Int) ∈ natsI (accL K (s + 1) (q / 2) 14)) = decide (Acc K (s + 1) D (q / 2)) from by
          by_cases h : Acc K (s + 1) D (q / 2)
          · rw [decide_eq_true h, decide_eq_true (mem_natsI.2 (mem_accL.2 ⟨hD12.1, by omega, h⟩))]
          · rw [decide_eq_false h, decide_eq_false fun h' => h (mem_accL.1 (mem_natsI.1 h')).2.2])
        have HLL := Lib.hid (show (natsI (accL K (s + 1) (q / 2) 14)).length ≤ 60 from by rw [natsI_length]; have := accL_length (n := K) (d := s + 1) (h := q / 2) 14; omega)
        have HSH := Lib.hid (show natsI (accL K (s + 1) (q / 2) 14) = [] ∨ ∃ lo k, 1 ≤ lo ∧ lo + k ≤ 14 ∧ (natsI (accL K (s + 1) (q / 2) 14)).length = k + 1 ∧ (∀ i, i ≤ k → (natsI (accL K (s + 1) (q / 2) 14)).getD i 0 = ((lo + i : Nat) : Int)) from by
          rcases set_shape (n := K) (m := 14) (h := q / 2) (show 1 ≤ s + 1 by omega) with h | h
          · exact .inl (by rw [h]; rfl)
          · exact .inr h)
        have HF1 := Lib.hid (HFP.out (s + 1))
        have HFS1 := Lib.hid (HFS.out (s + 1) (by omega))
        have HI2 := Lib.hid (fun (h : Acc K (s + 1) D (q / 2)) => covF_in h)
        have HO2 := Lib.hid (fun (h : ¬ Acc K (s + 1) D (q / 2)) => covF_out h)
        obtain ⟨S1, hS1⟩ : ∃ S1, S1 = sumQ (covF K D q) (s + 1) := ⟨_, rfl⟩
        obtain ⟨S2, hS2⟩ : ∃ S2, S2 = sumQ (covF K D q) (s + 1 + 1) := ⟨_, rfl⟩
        obtain ⟨p, hp⟩ : ∃ p, p = pch K D (s + 1) := ⟨_, rfl⟩
        rw [← hS1, ← hS2, ← hp] at HI2
        rw [← hS1, ← hS2] at HO2
        rw [← hS1] at HMV HFS1
        rw [← hp] at HKC HF1
        have HS2 := Lib.hid hS2
        clear hS1 hp hS2 hM
        by_cases ha : Acc K (s + 1) D (q / 2)
        · have HST := Lib.hid (HI2.out ha)
          have ha2 := ha.halfW HLQ.out
          rw [decide_eq_true ha] at HKQ HLH
          rw [decide_eq_true ha2] at HKM
          clear ha ha2 HI2 HO2
          go_wp2_with fail
          refine (HKQ.out _ (xC.trans xM)).mono ?_
          rintro e U6 ⟨rfl, x6⟩
          obtain ⟨cm0, cm1, cm2, _, _, _⟩ := HGM.out _ (xM.trans x6)
          go_wp2_with fail
          refine (HKM.out _ (xM.trans x6)).mono ?_
          rintro e U7 ⟨rfl, x7⟩
          have x7 := x6.trans x7
          go_wp2_with fail
          refine (HKC.out _).mono ?_
          rintro e w1 ⟨b1, A1, k1, c1, A1', k1', c1', rfl, h1, y1, n1, n1'⟩
          clear n1 n1'
          go_upto_region 14 with (fail)
          have hG1 := FBox.new w1 (.bool b1) (.slice A1 k1 c1) (.slice A1' k1' c1') 27
          have Y1 : Ext U7 (w1.alloc (.cells #[.bool b1, .slice A1 k1 c1, .slice A1' k1' c1'] 27)) := ext_alloc y1 _
          have h1 := h1.below (ext_alloc (Below.refl _ _) (.cells #[.bool b1, .slice A1 k1 c1, .slice A1' k1' c1'] 27))
          have hsz1 : w1.heap.size < (w1.alloc (.cells #[.bool b1, .slice A1 k1 c1, .slice A1' k1' c1'] 27)).heap.size := by simp
          generalize w1.alloc (.cells #[.bool b1, .slice A1 k1 c1, .slice A1' k1' c1'] 27) = W1 at *
          generalize w1.heap.size = B1 at *
          have HG1 := Lib.hid (fun (w' : World) (h : Ext W1 w') => hG1.below h)
          have HP1 := Lib.hid (fun (w' : World) (h : Ext W1 w') => FracV.any (h1.below h) (HF1.out) (by omega))
          have HB1 := Lib.hid (fun (w' : World) (h : Ext W1 w') => h1.below h)
          clear hG1 h1 y1 hsz1
          have z1 := x7.trans Y1
          obtain ⟨m0, m1, m2, gm0, gm1, gm2⟩ := HM2.out _ z1
          obtain ⟨p0, p1, p2, _, _, _⟩ := HG1.out _ (Below.refl _ _)
          have hsz := z1.size
          go_upto_region 18 with (go_at_call 13; (with_reducible refine (add_f (FracV.any (HMV.out _ z1) HFS1.out (by omega)) (HP1.out _ (Below.refl _ _)) HFS1.out HF1.out (by omega)).mono ?_); rintro _ s3 ⟨b3, A3, k3, c3, B3, l3, d3, rfl, h3, z3, n3, m3⟩; have f3 := z1.trans z3; obtain ⟨m0, m1, m2, gm0, gm1, gm2⟩ := HM2.out _ f3)
          rw [← HST.out] at h3
          have hFI : FIs WC (((s3.setCell ⟨B7, 0, none⟩ (.bool b3)).setCell ⟨B7, 1, none⟩ (.slice A3 k3 c3)).setCell ⟨B7, 2, none⟩ (.slice B3 l3 d3)) B7 S2 := ⟨b3, A3, k3, c3, B3, l3, d3, (HM2.out _ f3).put _ _ _, FracV.put h3 n3 m3 (by omega) _ _ _, ext_put (hX.trans f3) hlo _ _ _, n3.mono (by have := hX.size; omega), m3.mono (by have := hX.size; omega)⟩
          have hEN := ext_put (b := B7) (hX.trans f3) hlo (.bool b3) (.slice A3 k3 c3) (.slice B3 l3 d3)
          clear m0 m1 m2 gm0 gm1 gm2 p0 p1 p2 h3 n3 m3 z3 f3
          generalize ((s3.setCell ⟨B7, 0, none⟩ (.bool b3)).setCell ⟨B7, 1, none⟩ (.slice A3 k3 c3)).setCell ⟨B7, 2, none⟩ (.slice B3 l3 d3) = WN at *
          obtain ⟨c50, c51, c52, _, _, _⟩ := HG5.out _ (xC.trans hEN)
          go_wp2_with fail
          refine (HKS.out _ (xC.trans hEN)).mono ?_
          rintro e U8 ⟨A8, k8, rfl, hI8, y8, _⟩
          have HI8 := Lib.hid (fun (w' : World) (h : Ext U8 w') => hI8.below h)
          have HFI8 := Lib.hid (fun (w' : World) (h : Ext U8 w') => hFI.ext (y8.trans h))
          clear hI8 hFI
          obtain ⟨c50, c51, c52, _, _, _⟩ := HG5.out _ (xC.trans (hEN.trans y8))
          generalize natsI (accL K (s + 1) (q / 2) 14) = l at HI8 HLH HLL HSH ⊢
          go_wp2_with (go_at_call 15; (with_reducible refine (lhas (x := (D : Int)) (HI8.out _ (Below.refl _ _)) (by have := HLL.out; omega)).mono ?_); rw [HLH.out]; rintro _ U9 ⟨rfl, hU9⟩; obtain rfl : U8 = U9 := hU9.symm)
          go_loopw [21] (fun iv wx => ∃ i : Nat, (1 ≤ i ∧ i ≤ 61) ∧ iv = .int .i64 i ∧ Ext U8 wx) (fun iv _ => 62 - (intOf iv).toNat)
          case atStart => exact ⟨1, ⟨Nat.le_refl _, by omega⟩, rfl, Below.refl _ _⟩
          case round =>
            clear c50 c51 c52
            obtain ⟨i, ⟨hi1, hi61⟩, rfl, hx⟩ := hrel
            by_cases hil : i < l.length
            · obtain ⟨j, rfl⟩ : ∃ j, i = j + 1 := ⟨i - 1, by omega⟩
              obtain ⟨lo, k, g1, g2, g3, g4⟩ := HSH.out.resolve_left (by intro h; rw [h] at hil; simp at hil)
              obtain ⟨b1, o1, rfl, hb1', hc1⟩ := (HI8.out _ hx).plC (k := j + 1) hil
              obtain ⟨b2, o2, he, hb2', hc2⟩ := (HI8.out _ hx).plC (k := j) (by omega)
              obtain ⟨rfl, rfl⟩ : b1 = b2 ∧ o1 = o2 := by
                injection he with he
                injection he with he1 he2
                exact ⟨he1, he2⟩
              rw [g4 (j + 1) (by omega), show ((lo + (j + 1) : Nat) : Int) = ((lo + j : Nat) : Int) + 1 from by omega] at hc1
              rw [g4 j (by omega)] at hc2
              obtain ⟨y, hy⟩ : ∃ y : Int, y = ((lo + j : Nat) : Int) := ⟨_, rfl⟩
              rw [← hy] at hc1 hc2
              have hL60 := HLL.out
              have hw1' : IntKind.i64.wrap ((j : Int) + 1 - 1) = (j : Int) := by rw [wrap_in (by omega)]; omega
              have hw2' : IntKind.i64.wrap ((j : Int) + 1 + 1) = (j : Int) + 1 + 1 := wrap_in (by omega)
              have hw3' : IntKind.i64.wrap (y + 1) = y + 1 := wrap_in (by omega)
              have q1 : (0 : Int) ≤ (j : Int) + 1 := by omega
              have q2 : (j : Int) + 1 < (l.length : Int) := by omega
              have q3 : (0 : Int) ≤ (j : Int) := by omega
              have q4 : (j : Int) < (l.length : Int) := by omega
              clear g1 g2 g3 g4 hy he
              go_wp2
              go_quiet (fail)
              go_wp2
              go_roundw
              case rel => exact ⟨j + 2, by omega, by go_num, hx.drewN _⟩
              case measure => simp [intOf]; omega
            · have q1 : ¬ ((i : Int) < (l.length : Int)) := by omega
              have hfin := HFI8.out _ hx
              rw [HS2.out] at hfin
              go_wp2
              go_roundw
              all_goals first
                | exact ⟨s + 1, by omega, by go_num, hfin⟩
                | (simp [intOf]; omega)
        · have HST := Lib.hid (HO2.out ha)
          rw [decide_eq_false ha] at HKQ HLH
          obtain ⟨al, hal⟩ : ∃ al, decide (Acc K (s + 1) D (q * half12 / 2)) = al := ⟨_, rfl⟩
          rw [hal] at HKM
          clear ha hal HI2 HO2
          go_wp2_with fail
          refine (HKQ.out _ (xC.trans xM)).mono ?_
          rintro e U6 ⟨rfl, x6⟩
          obtain ⟨cm0, cm1, cm2, _, _, _⟩ := HGM.out _ (xM.trans x6)
          go_wp2_with fail
          refine (HKM.out _ (xM.trans x6)).mono ?_
          rintro e U7 ⟨rfl, x7⟩
          have x7 := x6.trans x7
          go_wp2_with fail
          refine (HKC.out _).mono ?_
          rintro e w1 ⟨b1, A1, k1, c1, A1', k1', c1', rfl, h1, y1, n1, n1'⟩
          clear n1 n1'
          go_upto_region 14 with (fail)
          have hG1 := FBox.new w1 (.bool b1) (.slice A1 k1 c1) (.slice A1' k1' c1') 27
          have Y1 : Ext U7 (w1.alloc (.cells #[.bool b1, .slice A1 k1 c1, .slice A1' k1' c1'] 27)) := ext_alloc y1 _
          have h1 := h1.below (ext_alloc (Below.refl _ _) (.cells #[.bool b1, .slice A1 k1 c1, .slice A1' k1' c1'] 27))
          have hsz1 : w1.heap.size < (w1.alloc (.cells #[.bool b1, .slice A1 k1 c1, .slice A1' k1' c1'] 27)).heap.size := by simp
          generalize w1.alloc (.cells #[.bool b1, .slice A1 k1 c1, .slice A1' k1' c1'] 27) = W1 at *
          generalize w1.heap.size = B1 at *
          have HG1 := Lib.hid (fun (w' : World) (h : Ext W1 w') => hG1.below h)
          have HP1 := Lib.hid (fun (w' : World) (h : Ext W1 w') => FracV.any (h1.below h) (HF1.out) (by omega))
          have HB1 := Lib.hid (fun (w' : World) (h : Ext W1 w') => h1.below h)
          clear hG1 h1 y1 hsz1
          have z1 := x7.trans Y1
          have hFI : FIs WC W1 B7 S2 := ⟨cc, MA, mk, ml, MA', mk', ml', HM2.out _ z1, by rw [HST.out]; exact HMV.out _ z1, hX.trans z1, nM, nM'⟩
          have hEN := hX.trans z1
          obtain ⟨WN, hWN⟩ : ∃ WN : World, WN = W1 := ⟨_, rfl⟩
          subst hWN
          obtain ⟨c50, c51, c52, _, _, _⟩ := HG5.out _ (xC.trans hEN)
          go_wp2_with fail
          refine (HKS.out _ (xC.trans hEN)).mono ?_
          rintro e U8 ⟨A8, k8, rfl, hI8, y8, _⟩
          have HI8 := Lib.hid (fun (w' : World) (h : Ext U8 w') => hI8.below h)
          have HFI8 := Lib.hid (fun (w' : World) (h : Ext U8 w') => hFI.ext (y8.trans h))
          clear hI8 hFI
          obtain ⟨c50, c51, c52, _, _, _⟩ := HG5.out _ (xC.trans (hEN.trans y8))
          generalize natsI (accL K (s + 1) (q / 2) 14) = l at HI8 HLH HLL HSH ⊢
          go_wp2_with (go_at_call 15; (with_reducible refine (lhas (x := (D : Int)) (HI8.out _ (Below.refl _ _)) (by have := HLL.out; omega)).mono ?_); rw [HLH.out]; rintro _ U9 ⟨rfl, hU9⟩; obtain rfl : U8 = U9 := hU9.symm)
          go_loopw [21] (fun iv wx => ∃ i : Nat, (1 ≤ i ∧ i ≤ 61) ∧ iv = .int .i64 i ∧ Ext U8 wx) (fun iv _ => 62 - (intOf iv).toNat)
          case atStart => exact ⟨1, ⟨Nat.le_refl _, by omega⟩, rfl, Below.refl _ _⟩
          case round =>
            clear c50 c51 c52
            obtain ⟨i, ⟨hi1, hi61⟩, rfl, hx⟩ := hrel
            by_cases hil : i < l.length
            · obtain ⟨j, rfl⟩ : ∃ j, i = j + 1 := ⟨i - 1, by omega⟩
              obtain ⟨lo, k, g1, g2, g3, g4⟩ := HSH.out.resolve_left (by intro h; rw [h] at hil; simp at hil)
              obtain ⟨b1, o1, rfl, hb1', hc1⟩ := (HI8.out _ hx).plC (k := j + 1) hil
              obtain ⟨b2, o2, he, hb2', hc2⟩ := (HI8.out _ hx).plC (k := j) (by omega)
              obtain ⟨rfl, rfl⟩ : b1 = b2 ∧ o1 = o2 := by
                injection he with he
                injection he with he1 he2
                exact ⟨he1, he2⟩
              rw [g4 (j + 1) (by omega), show ((lo + (j + 1) : Nat) : Int) = ((lo + j : Nat) : Int) + 1 from by omega] at hc1
              rw [g4 j (by omega)] at hc2
              obtain ⟨y, hy⟩ : ∃ y : Int, y = ((lo + j : Nat) : Int) := ⟨_, rfl⟩
              rw [← hy] at hc1 hc2
              have hL60 := HLL.out
              have hw1' : IntKind.i64.wrap ((j : Int) + 1 - 1) = (j : Int) := by rw [wrap_in (by omega)]; omega
              have hw2' : IntKind.i64.wrap ((j : Int) + 1 + 1) = (j : Int) + 1 + 1 := wrap_in (by omega)
              have hw3' : IntKind.i64.wrap (y + 1) = y + 1 := wrap_in (by omega)
              have q1 : (0 : Int) ≤ (j : Int) + 1 := by omega
              have q2 : (j : Int) + 1 < (l.length : Int) := by omega
              have q3 : (0 : Int) ≤ (j : Int) := by omega
              have q4 : (j : Int) < (l.length : Int) := by omega
              clear g1 g2 g3 g4 hy he
              go_wp2
              go_quiet (fail)
              go_wp2
              go_roundw
              case rel => exact ⟨j + 2, by omega, by go_num, hx.drewN _⟩
              case measure => simp [intOf]; omega
            · have q1 : ¬ ((i : Int) < (l.length : Int)) := by omega
              have hfin := HFI8.out _ hx
              rw [HS2.out] at hfin
              go_wp2
              go_roundw
              all_goals first
                | exact ⟨s + 1, by omega, by go_num, hfin⟩
                | (simp [intOf]; omega)
      · obtain rfl : s = K := by omega
        have hb1 : ¬ ((s : Int) + 1 ≤ (s : Int)) := by omega
        have HFS1 := Lib.hid (HFS.out (s + 1) (by omega))
        obtain ⟨S1, hS1⟩ : ∃ S1, S1 = sumQ (covF s D q) (s + 1) := ⟨_, rfl⟩
        rw [← hS1] at HFS1 HMV HEND
        have HFT := Lib.hid (FB.sub one1_fb HFQ.out (by omega))
        obtain ⟨T, hT⟩ : ∃ T, one1 - q = T := ⟨_, rfl⟩
        rw [hT] at HEND HFT
        obtain ⟨z, hz⟩ : ∃ z, cmpQ S1 T = z := ⟨_, rfl⟩
        rw [hz] at HEND
        have HZ := Lib.hid hz
        have HTT := Lib.hid hT
        have e1 : decide (0 ≤ z) = true := decide_eq_true HEND.out
        have HS := Lib.hid (fun (w' : World) (h : Ext wr w') => (⟨⟨(HM2.out _ h).1, (HM2.out _ h).2.1, (HM2.out _ h).2.2.1⟩, (HG5.out _ (xC.trans (xM.trans h))).1, (HG5.out _ (xC.trans (xM.trans h))).2.1, (HG5.out _ (xC.trans (xM.trans h))).2.2.1⟩ : (w'.cell? ⟨B7, 0, none⟩ = some (.bool cc) ∧ w'.cell? ⟨B7, 1, none⟩ = some (.slice MA mk ml) ∧ w'.cell? ⟨B7, 2, none⟩ = some (.slice MA' mk' ml')) ∧ w'.cell? ⟨B5, 0, none⟩ = some (.bool b5) ∧ w'.cell? ⟨B5, 1, none⟩ = some (.slice A5 k5 c5) ∧ w'.cell? ⟨B5, 2, none⟩ = some (.slice A5' k5' c5')))
        clear hS1 hT hz hM c50 c51 c52
        go_upto_region 26 with (fail)
        refine wp_region_G (fun w' => Ext wr w') [6] (by kernel_rfl) ?_
        have gS : Ext wr wr.drew := (Below.refl _ _).drew
        refine wpAnyG_take 0 (v := ?_) rfl (by kernel_rfl) (by kernel_rfl) (by kernel_rfl) (by kernel_rfl) (by rfl) (by kernel_rfl) (fun _ _ _ h => h) (by rfl) (fun w' hw' => ?_) gS ?_
        rotate_left
        focus (have hh := HS.out _ hw'; go_split_ands; go_simp; (try with_reducible rfl); done)
        (try simp only [Act.put, List.getElem_toArray, List.getElem_cons_succ, List.getElem_cons_zero, List.setIfInBounds_toArray, List.set_cons_zero, List.set_cons_succ])
        refine wpAnyG_take 2 (v := ?_) rfl (by kernel_rfl) (by kernel_rfl) (by kernel_rfl) (by kernel_rfl) (by rfl) (by kernel_rfl) (fun _ _ _ h => h) (by rfl) (fun w' hw' => ?_) gS ?_
        rotate_left
        focus (have hh := HS.out _ hw'; go_split_ands; go_simp; (try with_reducible rfl); done)
        (try simp only [Act.put, List.getElem_toArray, List.getElem_cons_succ, List.getElem_cons_zero, List.setIfInBounds_toArray, List.set_cons_zero, List.set_cons_succ])
        refine wpAnyG_one 1 (by kernel_rfl) rfl (by rfl) (fun K hK => ?_)
        go_simp
        go_at_call 9
        refine (fof_n (n := 1) (d := 1) (by omega) (by omega)).mono ?_
        rintro _ s1 ⟨b4, A4', k4', c4', B4', l4, d4, rfl, h4, z4, _⟩
        have h4 : FracV s1 b4 (.slice A4' k4' c4') (.slice B4' l4 d4) one1 := h4
        have gS : Ext wr s1 := Ext.trans gS z4
        (try go_wp2_with fail)
        refine hK.out _ _ (fun _ => gS) ?_
        clear hK K
        (try simp only [Act.put, List.getElem_toArray, List.getElem_cons_succ, List.getElem_cons_zero, List.setIfInBounds_toArray, List.set_cons_zero, List.set_cons_succ])
        refine wpAnyG_one 3 (by kernel_rfl) rfl (by rfl) (fun K hK => ?_)
        go_simp
        go_at_call 17
        refine (sub_f (FracV.any h4 one1_fb (by omega)) (HXV.out _ (xC.trans (xM.trans gS))) one1_fb HFQ.out (by omega)).mono ?_
        rw [HTT.out]
        rintro _ s2 ⟨b6, A6', k6', c6', B6', l6, d6, rfl, h6, z6, _⟩
        have gS : Ext wr s2 := Ext.trans gS z6
        (try go_wp2_with fail)
        refine hK.out _ _ (fun _ => gS) ?_
        clear hK K
        (try simp only [Act.put, List.getElem_toArray, List.getElem_cons_succ, List.getElem_cons_zero, List.setIfInBounds_toArray, List.set_cons_zero, List.set_cons_succ])
        refine wpAnyG_one 4 (by kernel_rfl) rfl (by rfl) (fun K hK => ?_)
        go_simp
        go_at_call 16
        refine (cmp_e (FracV.any (HMV.out _ gS) HFS1.out (by omega)) (FracV.any h6 HFT.out (by omega)) (by omega) HZ.out).mono ?_
        rintro _ s3 ⟨rfl, z8⟩
        have gS : Ext wr s3 := Ext.trans gS z8
        have f8 := gS
        (try go_wp2_with fail)
        refine hK.out _ _ (fun _ => gS) ?_
        clear hK K
        (try simp only [Act.put, List.getElem_toArray, List.getElem_cons_succ, List.getElem_cons_zero, List.setIfInBounds_toArray, List.set_cons_zero, List.set_cons_succ])
        refine wpAnyG_take 5 (v := ?_) rfl (by kernel_rfl) (by kernel_rfl) (by kernel_rfl) (by kernel_rfl) (by rfl) (by kernel_rfl) (fun _ _ _ h => h) (by rfl) (fun w' hw' => ?_) gS ?_
        rotate_left
        focus (go_simp; (try with_reducible rfl); done)
        (try simp only [Act.put, List.getElem_toArray, List.getElem_cons_succ, List.getElem_cons_zero, List.setIfInBounds_toArray, List.set_cons_zero, List.set_cons_succ])
        refine wpAnyG_one 6 (by kernel_rfl) rfl (by rfl) (fun K hK => ?_)
        go_simp
        refine hK.out _ _ (fun h => absurd h (by decide)) ?_
        clear hK K
        (try simp only [Act.put, List.getElem_toArray, List.getElem_cons_succ, List.getElem_cons_zero, List.setIfInBounds_toArray, List.set_cons_zero, List.set_cons_succ])
        refine wpAnyG_done (by kernel_rfl) ?_ _
        go_wp2
        go_ret
        exact ⟨by first | rfl | simp [e1], VC.trans (xM.trans f8)⟩
theorem law_WConB {n D d : Int} {w : World} (hn : 0 ≤ n ∧ n ≤ 255) (hD : 0 ≤ D ∧ D ≤ 255) (hd : 0 ≤ d ∧ d ≤ 255) (ht : Tab10 w) :
    Calls Tryd.prog 3 #[.int .u8 n, .int .u8 D, .int .u8 d] w (fun e w' => e = .returned (.bool true) ∧ Ext w w') := by
  obtain ⟨n', rfl⟩ : ∃ k : Nat, n = k := ⟨n.toNat, by omega⟩
  obtain ⟨D', rfl⟩ : ∃ k : Nat, D = k := ⟨D.toNat, by omega⟩
  obtain ⟨d', rfl⟩ : ∃ k : Nat, d = k := ⟨d.toNat, by omega⟩
  exact law_WCon (by omega) (by omega) (by omega) ht

end Go.Proofs.YtjdpkmngboiemaaDoor
