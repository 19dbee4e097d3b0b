/- metal: the reference's Mix. -/
import Derived.Test.YtmfigiifflljpaaMetN
import Derived.Test.YtmfigiifflljpaaMetX
set_option linter.unusedVariables false
set_option linter.unusedSimpArgs false
set_option maxRecDepth 100000
namespace Go.Proofs.Ytmfigiifflljpaa
open Go.RowKit Num

theorem dot_comm (f g : Nat → Rat) (n : Nat) : dotR f g n = dotR g f n := sm_congr fun i _ => Rat.mul_comm _ _
set_option maxHeartbeats 8000000 in
theorem rmix_ok {K K' : Bool} {v x : Value} {n C L : Nat} {M : Mx} {g : Nat → Rat} {w : World} (hv : EMat K w v n C M) (hx : EFs K' w x n g) (hfb : FBm M n C L) (hfx : ∀ k, k < n → FB (g k) L) (hL3 : 3 ≤ L) (hL : L ≤ 100000) (hn : n ≤ 8) (hC : C ≤ 8) (hz : n = 0 → C = 0) :
    Calls Try.prog 39 #[v, x] w (GivesL w (mixN g n C) (fun c => dotR (fun i => M i c) g n) (mixE g n)) := by
  have HVA := Lib.hid (hv.rvalid hn hC)
  have HCO := Lib.hid (fun (w' : World) (h : Ext w w') => (hv.below h).rcols hz)
  have HB := Lib.hid (fun i (hi : i < n) j (hj : j < C) => hfb i j hi hj)
  have HFX := Lib.hid hfx
  have HV := Lib.hid (fun (w' : World) (h : Ext w w') => hv.below h)
  have HX := Lib.hid (fun (w' : World) (h : Ext w w') => hx.below h)
  have HSB := Lib.hid (sm_fbB hfx hL (by omega))
  obtain ⟨A, cap, rfl, hc1, hc2⟩ := hv.form
  obtain ⟨A0, c0, rfl, hc3, hc4⟩ := hx.form
  obtain ⟨i0, hi, hz0, hz1, hz2⟩ := info_parts info_frac
  have hnn : ((n : Int) != (n : Int)) = false := by simp
  obtain ⟨f, hf⟩ : ∃ f : Nat → Rat, f = fun c => dotR (fun i => M i c) g n := ⟨_, rfl⟩
  have HF := Lib.hid (fun i => congrFun hf i)
  rw [← hf]
  clear hv hx hfb hfx hz hf
  go_enter Try.func39, Try.ntmps39
  go_upto_region 3 with (go_at_call 22; (with_reducible refine HVA.out.mono ?_); rintro e w1 ⟨rfl, x1⟩)
  go_wp2_with fail
  refine (rfof_n (n := 0) (d := 1) (by omega) (by omega)).mono ?_
  rintro e w6 ⟨b6, A6, k6, c6, A6', k6', c6', rfl, h6, y6, n6, n6'⟩
  rw [zero_firstM] at h6
  have hlo : w1.heap.size ≤ w6.heap.size := y6.size
  go_wp2
  have hG6 := FBox.new w6 (.bool b6) (.slice A6 k6 c6) (.slice A6' k6' c6') 34
  have Y6 : Ext w1 (w6.alloc (.cells #[.bool b6, .slice A6 k6 c6, .slice A6' k6' c6'] 34)) := ext_alloc y6 _
  have h6 := h6.below (ext_alloc (Below.refl _ _) (.cells #[.bool b6, .slice A6 k6 c6, .slice A6' k6' c6'] 34))
  have hsz6 : w6.heap.size < (w6.alloc (.cells #[.bool b6, .slice A6 k6 c6, .slice A6' k6' c6'] 34)).heap.size := by simp
  generalize w6.alloc (.cells #[.bool b6, .slice A6 k6 c6, .slice A6' k6' c6'] 34) = W6 at *
  generalize w6.heap.size = B6 at *
  go_loopw [7] (fun iv wr => ∃ k : Nat, k ≤ n ∧ iv = .int .i64 k ∧ Hid (∀ i, i < k → ¬ g i < 0) ∧ FIm w1 wr B6 (sm g k)) (fun iv _ => n - (intOf iv).toNat)
  case atStart => exact ⟨0, Nat.zero_le _, rfl, Lib.hid (fun i hi => by omega), b6, A6, k6, c6, A6', k6', c6', hG6, h6, Y6, n6, n6'⟩
  case round =>
    clear hG6 h6 Y6 n6 n6'
    obtain ⟨k, hk, rfl, HG, cc, MA, mk, ml, MA', mk', ml', hM, vM, xM, nM, nM'⟩ := hrel
    have HM := Lib.hid (fun (w' : World) (h : Ext wr w') => hM.below h)
    have hMl := hM.lt
    clear hM
    have hx : Ext w wr := x1.trans xM
    by_cases hkn : k < n
    · have HMV := Lib.hid (fun (w' : World) (h : Ext wr w') => FracV.any (vM.below h) (HSB.out k (by omega)) (by omega))
      have hX := xM
      clear vM
      obtain ⟨b, o, neg, A1, k1, c1, A2, k2, c2, rfl, hb, e0, e1, e2, he⟩ := (HX.out _ hx).at_ hkn
      have hi1 : (0 : Int) ≤ (k : Int) := by omega
      have hi2 : (k : Int) < (n : Int) := by omega
      have HE := Lib.hid (fun (w' : World) (h : Ext wr w') => (he.below h).any (HFX.out k hkn) hL3 (by omega))
      have HFK := Lib.hid (HFX.out k hkn)
      obtain ⟨z, hz⟩ : ∃ z, sgnQ (g k) = z := ⟨_, rfl⟩
      have HZ := Lib.hid hz
      have HSG := Lib.hid (show Calls Try.prog 32 #[.agg #[.bool neg, .slice A1 k1 c1, .slice A2 k2 c2]] wr (fun e w'' => e = .returned (.int .i64 z) ∧ Ext wr w'') from by
        have h1 := rsign_f (HE.out _ (Below.refl _ _)) (by omega)
        rwa [hz] at h1)
      have HS := Lib.hid (fun (w' : World) (h : Ext wr w') => (⟨⟨(h.cell (p := ⟨b, o + k * 3, none⟩) hb).trans e0, (h.cell (p := ⟨b, o + k * 3 + 1, none⟩) hb).trans e1, (h.cell (p := ⟨b, o + k * 3 + 2, none⟩) hb).trans e2⟩, (HM.out w' h).1, (HM.out w' h).2.1, (HM.out w' h).2.2.1⟩ : (w'.cell? ⟨b, o + k * 3, none⟩ = some (.bool neg) ∧ w'.cell? ⟨b, o + k * 3 + 1, none⟩ = some (.slice A1 k1 c1) ∧ w'.cell? ⟨b, o + k * 3 + 2, none⟩ = some (.slice A2 k2 c2)) ∧ w'.cell? ⟨B6, 0, none⟩ = some (.bool cc) ∧ w'.cell? ⟨B6, 1, none⟩ = some (.slice MA mk ml) ∧ w'.cell? ⟨B6, 2, none⟩ = some (.slice MA' mk' ml')))
      clear he hz
      by_cases hneg : g k < 0
      · have hq1 : z < 0 := by rw [← HZ.out]; exact sgn_neg.2 hneg
        have hME := Lib.hid (show mixE g n = 1 ∧ mixN g n C = 0 from ⟨by unfold mixE; rw [if_pos ⟨k, hkn, hneg⟩], by unfold mixN; rw [if_pos (.inl ⟨k, hkn, hneg⟩)]⟩)
        clear hneg
        go_wp2_with (go_at_call 32; (with_reducible refine HSG.out.mono ?_); rintro e w8 ⟨rfl, x8⟩)
        go_ret2
        rw [hME.out.1, hME.out.2]
        exact GivesL.none ⟨rfl, hx.trans x8⟩
      · have hq1 : ¬ z < 0 := by rw [← HZ.out]; exact fun h => hneg (sgn_neg.1 h)
        have HNG := Lib.hid hneg
        clear hneg
        go_upto_region 9 with (go_at_call 32; (with_reducible refine HSG.out.mono ?_); rintro e w8 ⟨rfl, x8⟩)
        have HS := Lib.hid (fun (w' : World) (h : Ext w8 w') => HS.out w' (x8.trans h))
        clear e0 e1 e2
        refine wp_region_G (fun w' => Ext w8 w') [6] (by kernel_rfl) ?_
        have gS : Ext w8 w8.drew := (Below.refl _ _).drew
        refine wpAnyG_take 0 (v := ?_) rfl (by kernel_rfl) (by kernel_rfl) (by kernel_rfl) (by kernel_rfl) (by rfl) (by kernel_rfl) (fun _ _ _ h => h) (by rfl) (fun w' hw' => ?_) gS ?_
        rotate_left
        focus (have hh := HS.out _ hw'; go_split_ands; go_simp; (try with_reducible rfl); done)
        (try simp only [Act.put, List.getElem_toArray, List.getElem_cons_succ, List.getElem_cons_zero, List.setIfInBounds_toArray, List.set_cons_zero, List.set_cons_succ])
        refine wpAnyG_take 1 (v := ?_) rfl (by kernel_rfl) (by kernel_rfl) (by kernel_rfl) (by kernel_rfl) (by rfl) (by kernel_rfl) (fun _ _ _ h => h) (by rfl) (fun w' hw' => ?_) gS ?_
        rotate_left
        focus (go_simp; (try with_reducible rfl); done)
        (try simp only [Act.put, List.getElem_toArray, List.getElem_cons_succ, List.getElem_cons_zero, List.setIfInBounds_toArray, List.set_cons_zero, List.set_cons_succ])
        refine wpAnyG_take 2 (v := ?_) rfl (by kernel_rfl) (by kernel_rfl) (by kernel_rfl) (by kernel_rfl) (by rfl) (by kernel_rfl) (fun _ _ _ h => h) (by rfl) (fun w' hw' => ?_) gS ?_
        rotate_left
        focus (go_simp; (try with_reducible rfl); done)
        (try simp only [Act.put, List.getElem_toArray, List.getElem_cons_succ, List.getElem_cons_zero, List.setIfInBounds_toArray, List.set_cons_zero, List.set_cons_succ])
        refine wpAnyG_take 3 (v := ?_) rfl (by kernel_rfl) (by kernel_rfl) (by kernel_rfl) (by kernel_rfl) (by rfl) (by kernel_rfl) (fun _ _ _ h => h) (by rfl) (fun w' hw' => ?_) gS ?_
        rotate_left
        focus (go_simp; (try with_reducible rfl); done)
        (try simp only [Act.put, List.getElem_toArray, List.getElem_cons_succ, List.getElem_cons_zero, List.setIfInBounds_toArray, List.set_cons_zero, List.set_cons_succ])
        refine wpAnyG_take 4 (v := ?_) rfl (by kernel_rfl) (by kernel_rfl) (by kernel_rfl) (by kernel_rfl) (by rfl) (by kernel_rfl) (fun _ _ _ h => h) (by rfl) (fun w' hw' => ?_) gS ?_
        rotate_left
        focus (have hh := HS.out _ hw'; go_split_ands; go_simp; (try with_reducible rfl); done)
        (try simp only [Act.put, List.getElem_toArray, List.getElem_cons_succ, List.getElem_cons_zero, List.setIfInBounds_toArray, List.set_cons_zero, List.set_cons_succ])
        refine wpAnyG_one 5 (by kernel_rfl) rfl (by rfl) (fun K hK => ?_)
        go_simp
        have gQ := gS
        go_at_call 34
        refine (radd_f (HMV.out _ (x8.trans gS)) (HE.out _ (x8.trans gS)) (HSB.out k (by omega)) HFK.out (by omega)).mono ?_
        rintro _ s8 ⟨b8, A8, k8, c8, B8, l8, d8, rfl, h8, z8, n8, m8⟩
        have gS : Ext w8 s8 := Ext.trans gS z8
        have gR : Ext wr s8 := x8.trans gS
        have hsq := (x8.trans gQ).size
        (try go_wp2_with fail)
        refine hK.out _ _ (fun _ => gS) ?_
        clear hK K
        (try simp only [Act.put, List.getElem_toArray, List.getElem_cons_succ, List.getElem_cons_zero, List.setIfInBounds_toArray, List.set_cons_zero, List.set_cons_succ])
        obtain ⟨m0, m1, m2, gm0, gm1, gm2⟩ := HM.out _ gR
        refine wpAnyG_one 6 (by kernel_rfl) rfl (by rfl) (fun K hK => ?_)
        go_simp
        refine hK.out _ _ (fun h => absurd h (by decide)) ?_
        clear hK K
        (try simp only [Act.put, List.getElem_toArray, List.getElem_cons_succ, List.getElem_cons_zero, List.setIfInBounds_toArray, List.set_cons_zero, List.set_cons_succ])
        refine wpAnyG_done (by kernel_rfl) ?_ _
        go_wp2
        go_roundw
        case rel => exact ⟨k + 1, by omega, by go_num, Lib.hid (fun i hi => by
          by_cases hik : i = k
          · rw [hik]; exact HNG.out
          · exact HG.out i (by omega)), b8, A8, k8, c8, B8, l8, d8, (HM.out _ gR).put _ _ _, FracV.put h8 n8 m8 (by omega) _ _ _, ext_put (hX.trans gR) (by omega) _ _ _, n8.mono (by have := hX.size; omega), m8.mono (by have := hX.size; omega)⟩
        case measure => simp [intOf]; omega
    · obtain rfl : n = k := by omega
      have hkk : ¬ ((n : Int) < (n : Int)) := by omega
      have hno : ¬ ∃ i, i < n ∧ g i < 0 := fun ⟨i, h1, h2⟩ => HG.out i h1 h2
      have HNO := Lib.hid hno
      obtain ⟨z, hz⟩ : ∃ z, cmpQ (sm g n) 1 = z := ⟨_, rfl⟩
      have HZ := Lib.hid hz
      have HSN := Lib.hid (HSB.out n (Nat.le_refl _))
      have HS := Lib.hid (fun (w' : World) (h : Ext wr w') => (⟨(HM.out w' h).1, (HM.out w' h).2.1, (HM.out w' h).2.2.1⟩ : w'.cell? ⟨B6, 0, none⟩ = some (.bool cc) ∧ w'.cell? ⟨B6, 1, none⟩ = some (.slice MA mk ml) ∧ w'.cell? ⟨B6, 2, none⟩ = some (.slice MA' mk' ml')))
      have HMV := Lib.hid (fun (w' : World) (h : Ext wr w') => FracV.any (vM.below h) HSN.out (by omega))
      obtain ⟨S, hS⟩ : ∃ S, S = sm g n := ⟨_, rfl⟩
      have HSD := Lib.hid hS
      rw [← hS] at HMV HZ
      have HST := Lib.hid (show S = 1 ↔ z = 0 from by rw [← HZ.out]; exact cmp_one.symm)
      clear hno hz hS vM
      go_upto_region 10 with (fail)
      go_cut [44] (fun bv wx => bv = .bool (z != 0) ∧ Ext wr wx)
      case first =>
        refine wp_region_G (fun w' => Ext wr w') [3] (by kernel_rfl) ?_
        have gS : Ext wr wr.drew := (Below.refl _ _).drew
        refine wpAnyG_take 0 (v := ?_) rfl (by kernel_rfl) (by kernel_rfl) (by kernel_rfl) (by kernel_rfl) (by rfl) (by kernel_rfl) (fun _ _ _ h => h) (by rfl) (fun w' hw' => ?_) gS ?_
        rotate_left
        focus (have hh := HS.out _ hw'; go_split_ands; go_simp; (try with_reducible rfl); done)
        (try simp only [Act.put, List.getElem_toArray, List.getElem_cons_succ, List.getElem_cons_zero, List.setIfInBounds_toArray, List.set_cons_zero, List.set_cons_succ])
        refine wpAnyG_one 1 (by kernel_rfl) rfl (by rfl) (fun K hK => ?_)
        go_simp
        go_at_call 57
        refine rone_n.mono ?_
        rintro _ s3 ⟨b3, A3, k3, c3, B3, l3, d3, rfl, h3, z3, _, _⟩
        have gS : Ext wr s3 := Ext.trans gS z3
        (try go_wp2_with fail)
        refine hK.out _ _ (fun _ => gS) ?_
        clear hK K
        (try simp only [Act.put, List.getElem_toArray, List.getElem_cons_succ, List.getElem_cons_zero, List.setIfInBounds_toArray, List.set_cons_zero, List.set_cons_succ])
        refine wpAnyG_one 2 (by kernel_rfl) rfl (by rfl) (fun K hK => ?_)
        go_simp
        go_at_call 28
        refine (rcmp_e (HMV.out _ gS) (FracV.any h3 fb_oneM (by omega)) (by omega) (by omega) (by omega) HZ.out).mono ?_
        rintro _ s4 ⟨rfl, z4⟩
        have gS : Ext wr s4 := Ext.trans gS z4
        have gR := gS
        (try go_wp2_with fail)
        refine hK.out _ _ (fun _ => gS) ?_
        clear hK K
        (try simp only [Act.put, List.getElem_toArray, List.getElem_cons_succ, List.getElem_cons_zero, List.setIfInBounds_toArray, List.set_cons_zero, List.set_cons_succ])
        refine wpAnyG_one 3 (by kernel_rfl) rfl (by rfl) (fun K hK => ?_)
        go_simp
        refine hK.out _ _ (fun h => absurd h (by decide)) ?_
        clear hK K
        (try simp only [Act.put, List.getElem_toArray, List.getElem_cons_succ, List.getElem_cons_zero, List.setIfInBounds_toArray, List.set_cons_zero, List.set_cons_succ])
        refine wpAnyG_done (by kernel_rfl) ?_ _
        go_wp2
        go_meet
        exact ⟨rfl, gR⟩
      case rest =>
        obtain ⟨rfl, hxc⟩ := hcut
        have hX4 : Ext w wc := hx.trans hxc
        clear hx hxc
        by_cases hS1 : S = 1
        · have hq1 : (z != 0) = false := by rw [HST.out.1 hS1]; rfl
          have hME := Lib.hid (show mixE g n = 0 ∧ mixN g n C = C from ⟨by unfold mixE; rw [if_neg HNO.out, if_pos (by rw [← HSD.out, hS1])], by unfold mixN; rw [if_neg (fun h => h.elim HNO.out (fun h => h (by rw [← HSD.out, hS1])))]⟩)
          clear hS1
          go_wp2
          go_loopw [8, 9] (fun rv iv wr => ∃ (c : Nat) (ts : List Fc), c ≤ C ∧ iv = .int .i64 c ∧ OwnF 34 w.heap.size w.heap.size wr rv ts (uptoQ f c) ∧ Ext w wr) (fun _ iv _ => C - (intOf iv).toNat)
          case atStart => exact ⟨0, [], Nat.zero_le _, rfl, OwnF.nil_ _ _ _ _, hX4⟩
          case round =>
            obtain ⟨c, ts, hc, rfl, hown, hy⟩ := hrel
            by_cases hcC : c < C
            · have HU := Lib.hid (uptoQ_length f c)
              have HOWN := Lib.hid hown
              have hcc1 : (0 : Int) ≤ (c : Int) := by omega
              have hcc2 : (c : Int) < (C : Int) := by omega
              have HBD := Lib.hid (dot_fb (f := g) (g := fun i => M i c) (n := n) (L := L) HFX.out (fun i hi => HB.out i hi c hcC) (by omega) hL (by omega))
              obtain ⟨wo, hwo⟩ : ∃ wo, wo = wr := ⟨_, rfl⟩
              subst hwo
              clear hown
              go_upto_region 16 with (go_at_call 52; (with_reducible refine (HCO.out _ hy).mono ?_); rintro e w3 ⟨rfl, hw3⟩; obtain rfl : wo = w3 := hw3.symm)
              go_wp2_with fail
              refine (rfof_n (n := 0) (d := 1) (by omega) (by omega)).mono ?_
              rintro e w7 ⟨b7, A7, k7, c7, A7', k7', c7', rfl, h7, y7, n7, n7'⟩
              rw [zero_firstM] at h7
              have hlo7 : wo.heap.size ≤ w7.heap.size := y7.size
              go_wp2
              have hG7 := FBox.new w7 (.bool b7) (.slice A7 k7 c7) (.slice A7' k7' c7') 34
              have Y7 : Ext wo (w7.alloc (.cells #[.bool b7, .slice A7 k7 c7, .slice A7' k7' c7'] 34)) := ext_alloc y7 _
              have h7 := h7.below (ext_alloc (Below.refl _ _) (.cells #[.bool b7, .slice A7 k7 c7, .slice A7' k7' c7'] 34))
              have hsz7 : w7.heap.size < (w7.alloc (.cells #[.bool b7, .slice A7 k7 c7, .slice A7' k7' c7'] 34)).heap.size := by simp
              generalize w7.alloc (.cells #[.bool b7, .slice A7 k7 c7, .slice A7' k7' c7'] 34) = W7 at *
              generalize w7.heap.size = B7 at *
              go_loopw [11] (fun iv wr => ∃ j : Nat, j ≤ n ∧ iv = .int .i64 j ∧ FIm wo wr B7 (dotR g (fun i => M i c) j)) (fun iv _ => n - (intOf iv).toNat)
              case atStart => exact ⟨0, Nat.zero_le _, rfl, b7, A7, k7, c7, A7', k7', c7', hG7, h7, Y7, n7, n7'⟩
              case round =>
                clear hG7 h7 Y7 n7 n7'
                obtain ⟨j, hj, rfl, cd, NA, nk, nl, NA', nk', nl', hM7, vM7, xM7, nM7, nM7'⟩ := hrel
                have HM7 := Lib.hid (fun (w' : World) (h : Ext wr w') => hM7.below h)
                have hMl7 := hM7.lt
                obtain ⟨m0, m1, m2, gm0, gm1, gm2⟩ := hM7
                by_cases hjC : j < n
                · have HMV7 := Lib.hid (fun (w' : World) (h : Ext wr w') => FracV.any (vM7.below h) (HBD.out j (by omega)) (by omega))
                  have hX7 := xM7
                  clear vM7
                  obtain ⟨ba, oa, A1, cp1, rfl, hba, hca, hrow⟩ := (HV.out _ (hy.trans xM7)).at_ hjC
                  obtain ⟨b, o, neg, A2, k2, c2, A3, k3, c3, rfl, hb, e0, e1, e2, fv⟩ := hrow.at_ hcC
                  obtain ⟨b', o', neg', A4, k4, c4, A5, k5, c5, rfl, hb', e3, e4, e5, fu⟩ := (HX.out _ (hy.trans xM7)).at_ hjC
                  have hj1 : (0 : Int) ≤ (j : Int) := by omega
                  have hj2 : (j : Int) < (n : Int) := by omega
                  have HFV := Lib.hid (fun (w' : World) (h : Ext wr w') => (fv.below h).any (HB.out j hjC c hcC) hL3 (by omega))
                  have HFU := Lib.hid (fun (w' : World) (h : Ext wr w') => (fu.below h).any (HFX.out j hjC) hL3 (by omega))
                  have HFM := Lib.hid (FB.mul (HFX.out j hjC) (HB.out j hjC c hcC) (by omega))
                  have HS := Lib.hid (fun (w' : World) (h : Ext wr w') => (⟨(h.cell (p := ⟨ba, oa + j, none⟩) hba).trans hca, ⟨(h.cell (p := ⟨b, o + c * 3, none⟩) hb).trans e0, (h.cell (p := ⟨b, o + c * 3 + 1, none⟩) hb).trans e1, (h.cell (p := ⟨b, o + c * 3 + 2, none⟩) hb).trans e2⟩, ⟨(h.cell (p := ⟨b', o' + j * 3, none⟩) hb').trans e3, (h.cell (p := ⟨b', o' + j * 3 + 1, none⟩) hb').trans e4, (h.cell (p := ⟨b', o' + j * 3 + 2, none⟩) hb').trans e5⟩, (HM7.out w' h).1, (HM7.out w' h).2.1, (HM7.out w' h).2.2.1⟩ : w'.cell? ⟨ba, oa + j, none⟩ = some (.slice (some ⟨b, o, none⟩) C cp1) ∧ (w'.cell? ⟨b, o + c * 3, none⟩ = some (.bool neg) ∧ w'.cell? ⟨b, o + c * 3 + 1, none⟩ = some (.slice A2 k2 c2) ∧ w'.cell? ⟨b, o + c * 3 + 2, none⟩ = some (.slice A3 k3 c3)) ∧ (w'.cell? ⟨b', o' + j * 3, none⟩ = some (.bool neg') ∧ w'.cell? ⟨b', o' + j * 3 + 1, none⟩ = some (.slice A4 k4 c4) ∧ w'.cell? ⟨b', o' + j * 3 + 2, none⟩ = some (.slice A5 k5 c5)) ∧ w'.cell? ⟨B7, 0, none⟩ = some (.bool cd) ∧ w'.cell? ⟨B7, 1, none⟩ = some (.slice NA nk nl) ∧ w'.cell? ⟨B7, 2, none⟩ = some (.slice NA' nk' nl')))
                  clear fv fu e0 e1 e2 e3 e4 e5 hca m0 m1 m2 gm0 gm1 gm2 hrow
                  go_upto_region 20 with (fail)
                  refine wp_region_G (fun w' => Ext wr w') [14] (by kernel_rfl) ?_
                  have gS : Ext wr wr.drew := (Below.refl _ _).drew
                  refine wpAnyG_take 0 (v := ?_) rfl (by kernel_rfl) (by kernel_rfl) (by kernel_rfl) (by kernel_rfl) (by rfl) (by kernel_rfl) (fun _ _ _ h => h) (by rfl) (fun w' hw' => ?_) gS ?_
                  rotate_left
                  focus (have hh := HS.out _ hw'; go_split_ands; go_simp; (try with_reducible rfl); done)
                  (try simp only [Act.put, List.getElem_toArray, List.getElem_cons_succ, List.getElem_cons_zero, List.setIfInBounds_toArray, List.set_cons_zero, List.set_cons_succ])
                  refine wpAnyG_take 1 (v := ?_) rfl (by kernel_rfl) (by kernel_rfl) (by kernel_rfl) (by kernel_rfl) (by rfl) (by kernel_rfl) (fun _ _ _ h => h) (by rfl) (fun w' hw' => ?_) gS ?_
                  rotate_left
                  focus (go_simp; (try with_reducible rfl); done)
                  (try simp only [Act.put, List.getElem_toArray, List.getElem_cons_succ, List.getElem_cons_zero, List.setIfInBounds_toArray, List.set_cons_zero, List.set_cons_succ])
                  refine wpAnyG_take 2 (v := ?_) rfl (by kernel_rfl) (by kernel_rfl) (by kernel_rfl) (by kernel_rfl) (by rfl) (by kernel_rfl) (fun _ _ _ h => h) (by rfl) (fun w' hw' => ?_) gS ?_
                  rotate_left
                  focus (go_simp; (try with_reducible rfl); done)
                  (try simp only [Act.put, List.getElem_toArray, List.getElem_cons_succ, List.getElem_cons_zero, List.setIfInBounds_toArray, List.set_cons_zero, List.set_cons_succ])
                  refine wpAnyG_take 3 (v := ?_) rfl (by kernel_rfl) (by kernel_rfl) (by kernel_rfl) (by kernel_rfl) (by rfl) (by kernel_rfl) (fun _ _ _ h => h) (by rfl) (fun w' hw' => ?_) gS ?_
                  rotate_left
                  focus (go_simp; (try with_reducible rfl); done)
                  (try simp only [Act.put, List.getElem_toArray, List.getElem_cons_succ, List.getElem_cons_zero, List.setIfInBounds_toArray, List.set_cons_zero, List.set_cons_succ])
                  refine wpAnyG_take 4 (v := ?_) rfl (by kernel_rfl) (by kernel_rfl) (by kernel_rfl) (by kernel_rfl) (by rfl) (by kernel_rfl) (fun _ _ _ h => h) (by rfl) (fun w' hw' => ?_) gS ?_
                  rotate_left
                  focus (have hh := HS.out _ hw'; go_split_ands; go_simp; (try with_reducible rfl); done)
                  (try simp only [Act.put, List.getElem_toArray, List.getElem_cons_succ, List.getElem_cons_zero, List.setIfInBounds_toArray, List.set_cons_zero, List.set_cons_succ])
                  refine wpAnyG_take 5 (v := ?_) rfl (by kernel_rfl) (by kernel_rfl) (by kernel_rfl) (by kernel_rfl) (by rfl) (by kernel_rfl) (fun _ _ _ h => h) (by rfl) (fun w' hw' => ?_) gS ?_
                  rotate_left
                  focus (go_simp; (try with_reducible rfl); done)
                  (try simp only [Act.put, List.getElem_toArray, List.getElem_cons_succ, List.getElem_cons_zero, List.setIfInBounds_toArray, List.set_cons_zero, List.set_cons_succ])
                  refine wpAnyG_take 6 (v := ?_) rfl (by kernel_rfl) (by kernel_rfl) (by kernel_rfl) (by kernel_rfl) (by rfl) (by kernel_rfl) (fun _ _ _ h => h) (by rfl) (fun w' hw' => ?_) gS ?_
                  rotate_left
                  focus (go_simp; (try with_reducible rfl); done)
                  (try simp only [Act.put, List.getElem_toArray, List.getElem_cons_succ, List.getElem_cons_zero, List.setIfInBounds_toArray, List.set_cons_zero, List.set_cons_succ])
                  refine wpAnyG_take 7 (v := ?_) rfl (by kernel_rfl) (by kernel_rfl) (by kernel_rfl) (by kernel_rfl) (by rfl) (by kernel_rfl) (fun _ _ _ h => h) (by rfl) (fun w' hw' => ?_) gS ?_
                  rotate_left
                  focus (go_simp; (try with_reducible rfl); done)
                  (try simp only [Act.put, List.getElem_toArray, List.getElem_cons_succ, List.getElem_cons_zero, List.setIfInBounds_toArray, List.set_cons_zero, List.set_cons_succ])
                  refine wpAnyG_take 8 (v := ?_) rfl (by kernel_rfl) (by kernel_rfl) (by kernel_rfl) (by kernel_rfl) (by rfl) (by kernel_rfl) (fun _ _ _ h => h) (by rfl) (fun w' hw' => ?_) gS ?_
                  rotate_left
                  focus (have hh := HS.out _ hw'; go_split_ands; go_simp; (try with_reducible rfl); done)
                  (try simp only [Act.put, List.getElem_toArray, List.getElem_cons_succ, List.getElem_cons_zero, List.setIfInBounds_toArray, List.set_cons_zero, List.set_cons_succ])
                  refine wpAnyG_take 9 (v := ?_) rfl (by kernel_rfl) (by kernel_rfl) (by kernel_rfl) (by kernel_rfl) (by rfl) (by kernel_rfl) (fun _ _ _ h => h) (by rfl) (fun w' hw' => ?_) gS ?_
                  rotate_left
                  focus (go_simp; (try with_reducible rfl); done)
                  (try simp only [Act.put, List.getElem_toArray, List.getElem_cons_succ, List.getElem_cons_zero, List.setIfInBounds_toArray, List.set_cons_zero, List.set_cons_succ])
                  refine wpAnyG_take 10 (v := ?_) rfl (by kernel_rfl) (by kernel_rfl) (by kernel_rfl) (by kernel_rfl) (by rfl) (by kernel_rfl) (fun _ _ _ h => h) (by rfl) (fun w' hw' => ?_) gS ?_
                  rotate_left
                  focus (go_simp; (try with_reducible rfl); done)
                  (try simp only [Act.put, List.getElem_toArray, List.getElem_cons_succ, List.getElem_cons_zero, List.setIfInBounds_toArray, List.set_cons_zero, List.set_cons_succ])
                  refine wpAnyG_take 11 (v := ?_) rfl (by kernel_rfl) (by kernel_rfl) (by kernel_rfl) (by kernel_rfl) (by rfl) (by kernel_rfl) (fun _ _ _ h => h) (by rfl) (fun w' hw' => ?_) gS ?_
                  rotate_left
                  focus (have hh := HS.out _ hw'; go_split_ands; go_simp; (try with_reducible rfl); done)
                  (try simp only [Act.put, List.getElem_toArray, List.getElem_cons_succ, List.getElem_cons_zero, List.setIfInBounds_toArray, List.set_cons_zero, List.set_cons_succ])
                  refine wpAnyG_one 12 (by kernel_rfl) rfl (by rfl) (fun K hK => ?_)
                  (try simp only [List.getElem_toArray, List.getElem_cons_succ, List.getElem_cons_zero])
                  go_simp
                  go_at_call 63
                  refine (rmul_f (HFU.out _ gS) (HFV.out _ gS) (by omega)).mono ?_
                  rintro _ s7 ⟨b8, A8, k8, c8, B8, l8, d8, rfl, h8, z8, n8, m8⟩
                  have gS : Ext wr s7 := Ext.trans gS z8
                  (try go_wp2_with fail)
                  refine hK.out _ _ (fun _ => gS) ?_
                  clear hK K
                  (try simp only [Act.put, List.getElem_toArray, List.getElem_cons_succ, List.getElem_cons_zero, List.setIfInBounds_toArray, List.set_cons_zero, List.set_cons_succ])
                  refine wpAnyG_one 13 (by kernel_rfl) rfl (by rfl) (fun K hK => ?_)
                  (try simp only [List.getElem_toArray, List.getElem_cons_succ, List.getElem_cons_zero])
                  go_simp
                  have gQ := gS
                  go_at_call 34
                  refine (radd_f (HMV7.out _ gS) (FracV.any h8 HFM.out (by omega)) (HBD.out j (by omega)) HFM.out (by omega)).mono ?_
                  rintro _ s8 ⟨b9, A9, k9, c9, B9, l9, d9, rfl, h9, z9, n9, m9⟩
                  have gS : Ext wr s8 := Ext.trans gS z9
                  have gR := gS
                  (try go_wp2_with fail)
                  refine hK.out _ _ (fun _ => gS) ?_
                  clear hK K
                  (try simp only [Act.put, List.getElem_toArray, List.getElem_cons_succ, List.getElem_cons_zero, List.setIfInBounds_toArray, List.set_cons_zero, List.set_cons_succ])
                  obtain ⟨m0, m1, m2, gm0, gm1, gm2⟩ := HM7.out _ gS
                  refine wpAnyG_one 14 (by kernel_rfl) rfl (by rfl) (fun K hK => ?_)
                  (try simp only [List.getElem_toArray, List.getElem_cons_succ, List.getElem_cons_zero])
                  go_simp
                  refine hK.out _ _ (fun h => absurd h (by decide)) ?_
                  clear hK K
                  (try simp only [Act.put, List.getElem_toArray, List.getElem_cons_succ, List.getElem_cons_zero, List.setIfInBounds_toArray, List.set_cons_zero, List.set_cons_succ])
                  refine wpAnyG_done (by kernel_rfl) ?_ _
                  go_wp2
                  go_roundw
                  case rel => exact ⟨j + 1, by omega, by go_num, b9, A9, k9, c9, B9, l9, d9, (HM7.out _ gR).put _ _ _, FracV.put h9 n9 m9 (by have := gQ.size; omega) _ _ _, ext_put (hX7.trans gR) (by omega) _ _ _, n9.mono (by have := hX7.size; have := gQ.size; omega), m9.mono (by have := hX7.size; have := gQ.size; omega)⟩
                  case measure => simp [intOf]; omega
                · obtain rfl : n = j := by omega
                  have hjj : ¬ ((n : Int) < (n : Int)) := by omega
                  have HVM := Lib.hid (show FracV wr cd (.slice NA nk nl) (.slice NA' nk' nl') (f c) from by rw [HF.out c, dot_comm]; exact vM7)
                  have XM := xM7
                  have hyx : Ext w wr := hy.trans xM7
                  clear vM7 xM7
                  go_wp2_with (at_builtin; refine wpList_append_mine _ (by rfl) (.tmp 72) (.tmp 74) 39 (by rfl) w.heap.size 34 i0 (.agg #[.bool false, .slice none 0 0, .slice none 0 0]) 3 56 Try.underlying39 hi hz0 hz1 hz2 rfl (by omega) _ _ _ (by rfl) (HOWN.out.ext (ext_alloc XM _)).1.1 ⟨wr.heap.size, 0, none⟩ 1 1 [.bool cd, .slice NA nk nl, .slice NA' nk' nl'] (by rfl) rfl (cell_three wr _ _ _ _) (by simp [Value.oneCell']) (by rw [HU.out]; unfold maxLen; omega) (by rw [HU.out]; omega) (by have := hyx.size; simp; omega) ?_; intro v8 w8 ho8 hg8 hw8)
                  have hO8 : OwnF 34 w.heap.size w.heap.size w8 v8 (ts ++ [⟨cd, .slice NA nk nl, .slice NA' nk' nl'⟩]) (uptoQ f (c + 1)) := by
                    rw [uptoQ_succ]; exact OwnF.grow (t := ⟨cd, .slice NA nk nl, .slice NA' nk' nl'⟩) HOWN.out (ext_alloc XM _) (HVM.out.below (ext_alloc (Below.refl _ _) _)) nM7 nM7' hy.size ho8 hg8 hw8
                  have hx8 : Ext w w8 := OwnF.grow_ext HOWN.out hy (ext_alloc XM _) hg8
                  clear ho8 hg8 hw8 HOWN nM7 nM7'
                  go_roundw
                  case rel => exact ⟨c + 1, _, by omega, by go_num, hO8, hx8⟩
                  case measure => simp [intOf]; omega
            · obtain rfl : C = c := by omega
              have hcc : ¬ ((C : Int) < (C : Int)) := by omega
              obtain ⟨A9, c9, rfl, _, _⟩ := hown.fracs.form
              rw [uptoQ_length] at hown ⊢
              have h9 := EFs.of_fracs (hown.fracs)
              clear hown
              go_wp2_with (go_at_call 52; (with_reducible refine (HCO.out _ hy).mono ?_); rintro e w3 ⟨rfl, hw3⟩; obtain rfl : wr = w3 := hw3.symm)
              go_ret2
              rw [hME.out.1, hME.out.2]
              exact ⟨_, _, rfl, h9, hy⟩
        · have hq1 : (z != 0) = true := by rw [bne_iff_ne]; exact fun h => hS1 (HST.out.2 h)
          have hME := Lib.hid (show mixE g n = 9 ∧ mixN g n C = 0 from ⟨by unfold mixE; rw [if_neg HNO.out, if_neg (by rw [← HSD.out]; exact hS1)], by unfold mixN; rw [if_pos (.inr (by rw [← HSD.out]; exact hS1))]⟩)
          clear hS1
          go_wp2
          go_ret2
          rw [hME.out.1, hME.out.2]
          exact GivesL.none ⟨rfl, hX4⟩
set_option maxHeartbeats 4000000 in
theorem rmix_no {K : Bool} {v x : Value} {ls : List Nat} {m : Nat} {b : Nat → Rat} {w : World} (hv : LMat w v ls) (hx : EFs K w x m b) (hl : ¬ validL ls ∨ m ≠ ls.length) :
    Calls Try.prog 39 #[v, x] w (fun e w' => e = .returned (.tuple #[.slice none 0 0, .int .i64 1]) ∧ Ext w w') := by
  have HVA := Lib.hid (rvalid_l hv)
  obtain ⟨A, cap, rfl, hc1, hc2⟩ := hv.form
  obtain ⟨A0, c0, rfl, hc3, hc4⟩ := hx.form
  clear hv hx
  obtain ⟨b, hb⟩ : ∃ b, b = decide (validL ls) := ⟨_, rfl⟩
  rw [← hb] at HVA
  obtain ⟨c, hc⟩ : ∃ c, c = ls.length := ⟨_, rfl⟩
  rw [← hc] at hl hc1 HVA ⊢
  have hb' : b = true → ((c : Int) != (m : Int)) = true := fun h => by
    rcases hl with hl | hl
    · exact absurd (of_decide_eq_true (hb.symm.trans h)) hl
    · rw [bne_iff_ne]; omega
  clear hb hc hl
  go_enter Try.func39, Try.ntmps39
  cases b with
  | false =>
    clear hb'
    go_wp2_with (go_at_call 22; (with_reducible refine HVA.out.mono ?_); rintro e w1 ⟨rfl, x1⟩)
    go_ret2
    exact ⟨rfl, x1⟩
  | true =>
    have hm := hb' rfl
    have hm' : ¬ (c = m) := by rw [bne_iff_ne] at hm; omega
    clear hb'
    go_wp2_with (go_at_call 22; (with_reducible refine HVA.out.mono ?_); rintro e w1 ⟨rfl, x1⟩)
    go_ret2
    exact ⟨rfl, x1⟩

end Go.Proofs.Ytmfigiifflljpaa
