/- metal: the reference's Times. -/
import Derived.Test.YtmfigiifflljpaaMetF
import Derived.Test.YtmfigiifflljpaaRFracN
set_option linter.unusedVariables false
set_option linter.unusedSimpArgs false
set_option maxRecDepth 100000
namespace Go.Proofs.Ytmfigiifflljpaa
open Go.RowKit Num

theorem EMat.rvalid {K : Bool} {w : World} {v : Value} {n C : Nat} {M : Mx} (h : EMat K w v n C M) (hn : n ≤ 8) (hC : C ≤ 8) : Calls Try.prog 22 #[v] w (fun e w' => e = .returned (.bool true) ∧ Ext w w') := by
  have h1 := rvalid_l h.lens
  rwa [decide_eq_true (valid_rep.2 ⟨.inr hC, hn⟩)] at h1
theorem EMat.rcols {K : Bool} {w : World} {v : Value} {n C : Nat} {M : Mx} (h : EMat K w v n C M) (hz : n = 0 → C = 0) : Calls Try.prog 52 #[v] w (fun e w' => e = .returned (.int .i64 (C : Int)) ∧ w' = w) := by
  have h1 := rcols_l h.lens
  have e : (List.replicate n C).headD 0 = C := by
    cases n with
    | zero => simp [hz rfl]
    | succ n => simp [List.replicate_succ]
  rwa [e] at h1
set_option maxHeartbeats 8000000 in
theorem rtimes_ok {K K' : Bool} {v x : Value} {n C L : Nat} {M : Mx} {g : Nat → Rat} {w : World} (hv : EMat K w v n C M) (hx : EFs K' w x C g) (hfb : FBm M n C L) (hfx : ∀ k, k < C → FB (g k) L) (hL3 : 3 ≤ L) (hL : L ≤ 100000) (hn : n ≤ 8) (hC : C ≤ 8) (hz : n = 0 → C = 0) :
    Calls Try.prog 36 #[v, x] w (GivesL w n (fun i => dotR (M i) g C) 0) := by
  have HVA := Lib.hid (hv.rvalid hn hC)
  have HCO := Lib.hid (fun (w' : World) (h : Ext w w') => (hv.below h).rcols hz)
  have HB := Lib.hid (fun i (hi : i < n) j (hj : j < C) => hfb i j hi hj)
  have HFX := Lib.hid hfx
  have HV := Lib.hid (fun (w' : World) (h : Ext w w') => hv.below h)
  have HX := Lib.hid (fun (w' : World) (h : Ext w w') => hx.below h)
  obtain ⟨A, cap, rfl, hc1, hc2⟩ := hv.form
  obtain ⟨A0, c0, rfl, hc3, hc4⟩ := hx.form
  obtain ⟨i0, hi, hz0, hz1, hz2⟩ := info_parts info_frac
  have hCC : ((C : Int) != (C : Int)) = false := by simp
  obtain ⟨f, hf⟩ : ∃ f : Nat → Rat, f = fun i => dotR (M i) g C := ⟨_, rfl⟩
  have HF := Lib.hid (fun i => congrFun hf i)
  rw [← hf]
  clear hv hx hfb hfx hz hf
  go_enter Try.func36, Try.ntmps36
  go_wp2_with (first
    | (go_at_call 22; (with_reducible refine HVA.out.mono ?_); rintro e w1 ⟨rfl, x1⟩)
    | (go_at_call 52; (with_reducible refine (HCO.out _ x1).mono ?_); rintro e w2 ⟨rfl, hw2⟩; obtain rfl : w1 = w2 := hw2.symm))
  go_loopw [6, 7] (fun rv iv wr => ∃ (k : Nat) (ts : List Fc), k ≤ n ∧ iv = .int .i64 k ∧ OwnF 34 w.heap.size w.heap.size wr rv ts (uptoQ f k) ∧ Ext w wr) (fun _ iv _ => n - (intOf iv).toNat)
  case atStart => exact ⟨0, [], Nat.zero_le _, rfl, OwnF.nil_ _ _ _ _, x1⟩
  case round =>
    obtain ⟨k, ts, hk, rfl, hown, hy⟩ := hrel
    by_cases hkn : k < n
    · have HU := Lib.hid (uptoQ_length f k)
      have HOWN := Lib.hid hown
      have hi1 : (0 : Int) ≤ (k : Int) := by omega
      have hi2 : (k : Int) < (n : Int) := by omega
      have HBD := Lib.hid (dot_fb (f := M k) (g := g) (n := C) (L := L) (HB.out k hkn) HFX.out (by omega) hL (by omega))
      obtain ⟨wo, hwo⟩ : ∃ wo, wo = wr := ⟨_, rfl⟩
      subst hwo
      clear hown
      go_wp2_with fail
      refine (rfof_n (n := 0) (d := 1) (by omega) (by omega)).mono ?_
      rintro e w6 ⟨b6, A6, k6, c6, A6', k6', c6', rfl, h6, y6, n6, n6'⟩
      rw [zero_firstM] at h6
      have hlo : wo.heap.size ≤ w6.heap.size := y6.size
      go_wp2
      have hG6 := FBox.new w6 (.bool b6) (.slice A6 k6 c6) (.slice A6' k6' c6') 34
      have Y6 : Ext wo (w6.alloc (.cells #[.bool b6, .slice A6 k6 c6, .slice A6' k6' c6'] 34)) := ext_alloc y6 _
      have h6 := h6.below (ext_alloc (Below.refl _ _) (.cells #[.bool b6, .slice A6 k6 c6, .slice A6' k6' c6'] 34))
      have hsz6 : w6.heap.size < (w6.alloc (.cells #[.bool b6, .slice A6 k6 c6, .slice A6' k6' c6'] 34)).heap.size := by simp
      generalize w6.alloc (.cells #[.bool b6, .slice A6 k6 c6, .slice A6' k6' c6'] 34) = W6 at *
      generalize w6.heap.size = B6 at *
      go_loopw [9] (fun iv wr => ∃ j : Nat, j ≤ C ∧ iv = .int .i64 j ∧ FIm wo wr B6 (dotR (M k) g j)) (fun iv _ => C - (intOf iv).toNat)
      case atStart => exact ⟨0, Nat.zero_le _, rfl, b6, A6, k6, c6, A6', k6', c6', hG6, h6, Y6, n6, n6'⟩
      case round =>
        clear hG6 h6 Y6 n6 n6'
        obtain ⟨j, hj, rfl, cc, MA, mk, ml, MA', mk', ml', hM, vM, xM, nM, nM'⟩ := hrel
        have HM := Lib.hid (fun (w' : World) (h : Ext wr w') => hM.below h)
        have hMl := hM.lt
        obtain ⟨m0, m1, m2, gm0, gm1, gm2⟩ := hM
        by_cases hjC : j < C
        · have HMV := Lib.hid (fun (w' : World) (h : Ext wr w') => FracV.any (vM.below h) (HBD.out j (by omega)) (by omega))
          have hX := xM
          clear vM
          obtain ⟨ba, oa, A1, cp1, rfl, hba, hca, hrow⟩ := (HV.out _ (hy.trans xM)).at_ hkn
          obtain ⟨b, o, neg, A2, k2, c2, A3, k3, c3, rfl, hb, e0, e1, e2, fv⟩ := hrow.at_ hjC
          obtain ⟨b', o', neg', A4, k4, c4, A5, k5, c5, rfl, hb', e3, e4, e5, fu⟩ := (HX.out _ (hy.trans xM)).at_ hjC
          have hj1 : (0 : Int) ≤ (j : Int) := by omega
          have hj2 : (j : Int) < (C : Int) := by omega
          have HFV := Lib.hid (fun (w' : World) (h : Ext wr w') => (fv.below h).any (HB.out k hkn j hjC) hL3 (by omega))
          have HFU := Lib.hid (fun (w' : World) (h : Ext wr w') => (fu.below h).any (HFX.out j hjC) hL3 (by omega))
          have HFM := Lib.hid (FB.mul (HB.out k hkn j hjC) (HFX.out j hjC) (by omega))
          have HS := Lib.hid (fun (w' : World) (h : Ext wr w') => (⟨(h.cell (p := ⟨ba, oa + k, none⟩) hba).trans hca, ⟨(h.cell (p := ⟨b, o + j * 3, none⟩) hb).trans e0, (h.cell (p := ⟨b, o + j * 3 + 1, none⟩) hb).trans e1, (h.cell (p := ⟨b, o + j * 3 + 2, none⟩) hb).trans e2⟩, ⟨(h.cell (p := ⟨b', o' + j * 3, none⟩) hb').trans e3, (h.cell (p := ⟨b', o' + j * 3 + 1, none⟩) hb').trans e4, (h.cell (p := ⟨b', o' + j * 3 + 2, none⟩) hb').trans e5⟩, (HM.out w' h).1, (HM.out w' h).2.1, (HM.out w' h).2.2.1⟩ : w'.cell? ⟨ba, oa + k, none⟩ = some (.slice (some ⟨b, o, none⟩) C cp1) ∧ (w'.cell? ⟨b, o + j * 3, none⟩ = some (.bool neg) ∧ w'.cell? ⟨b, o + j * 3 + 1, none⟩ = some (.slice A2 k2 c2) ∧ w'.cell? ⟨b, o + j * 3 + 2, none⟩ = some (.slice A3 k3 c3)) ∧ (w'.cell? ⟨b', o' + j * 3, none⟩ = some (.bool neg') ∧ w'.cell? ⟨b', o' + j * 3 + 1, none⟩ = some (.slice A4 k4 c4) ∧ w'.cell? ⟨b', o' + j * 3 + 2, none⟩ = some (.slice A5 k5 c5)) ∧ w'.cell? ⟨B6, 0, none⟩ = some (.bool cc) ∧ w'.cell? ⟨B6, 1, none⟩ = some (.slice MA mk ml) ∧ w'.cell? ⟨B6, 2, none⟩ = some (.slice MA' mk' ml')))
          clear fv fu e0 e1 e2 e3 e4 e5 hca m0 m1 m2 gm0 gm1 gm2 hrow
          go_upto_region 11 with (fail)
          refine wp_region_G (fun w' => Ext wr w') [14] (by kernel_rfl) ?_
          have gS : Ext wr wr.drew := (Below.refl _ _).drew
          refine wpAnyG_take 0 (v := ?_) rfl (by kernel_rfl) (by kernel_rfl) (by kernel_rfl) (by kernel_rfl) (by rfl) (by kernel_rfl) (fun _ _ _ h => h) (by rfl) (fun w' hw' => ?_) gS ?_
          rotate_left
          focus (have hh := HS.out _ hw'; go_split_ands; go_simp; (try with_reducible rfl); done)
          (try simp only [Act.put, List.getElem_toArray, List.getElem_cons_succ, List.getElem_cons_zero, List.setIfInBounds_toArray, List.set_cons_zero, List.set_cons_succ])
          refine wpAnyG_take 1 (v := ?_) rfl (by kernel_rfl) (by kernel_rfl) (by kernel_rfl) (by kernel_rfl) (by rfl) (by kernel_rfl) (fun _ _ _ h => h) (by rfl) (fun w' hw' => ?_) gS ?_
          rotate_left
          focus (go_simp; (try with_reducible rfl); done)
          (try simp only [Act.put, List.getElem_toArray, List.getElem_cons_succ, List.getElem_cons_zero, List.setIfInBounds_toArray, List.set_cons_zero, List.set_cons_succ])
          refine wpAnyG_take 2 (v := ?_) rfl (by kernel_rfl) (by kernel_rfl) (by kernel_rfl) (by kernel_rfl) (by rfl) (by kernel_rfl) (fun _ _ _ h => h) (by rfl) (fun w' hw' => ?_) gS ?_
          rotate_left
          focus (go_simp; (try with_reducible rfl); done)
          (try simp only [Act.put, List.getElem_toArray, List.getElem_cons_succ, List.getElem_cons_zero, List.setIfInBounds_toArray, List.set_cons_zero, List.set_cons_succ])
          refine wpAnyG_take 3 (v := ?_) rfl (by kernel_rfl) (by kernel_rfl) (by kernel_rfl) (by kernel_rfl) (by rfl) (by kernel_rfl) (fun _ _ _ h => h) (by rfl) (fun w' hw' => ?_) gS ?_
          rotate_left
          focus (go_simp; (try with_reducible rfl); done)
          (try simp only [Act.put, List.getElem_toArray, List.getElem_cons_succ, List.getElem_cons_zero, List.setIfInBounds_toArray, List.set_cons_zero, List.set_cons_succ])
          refine wpAnyG_take 4 (v := ?_) rfl (by kernel_rfl) (by kernel_rfl) (by kernel_rfl) (by kernel_rfl) (by rfl) (by kernel_rfl) (fun _ _ _ h => h) (by rfl) (fun w' hw' => ?_) gS ?_
          rotate_left
          focus (have hh := HS.out _ hw'; go_split_ands; go_simp; (try with_reducible rfl); done)
          (try simp only [Act.put, List.getElem_toArray, List.getElem_cons_succ, List.getElem_cons_zero, List.setIfInBounds_toArray, List.set_cons_zero, List.set_cons_succ])
          refine wpAnyG_take 5 (v := ?_) rfl (by kernel_rfl) (by kernel_rfl) (by kernel_rfl) (by kernel_rfl) (by rfl) (by kernel_rfl) (fun _ _ _ h => h) (by rfl) (fun w' hw' => ?_) gS ?_
          rotate_left
          focus (go_simp; (try with_reducible rfl); done)
          (try simp only [Act.put, List.getElem_toArray, List.getElem_cons_succ, List.getElem_cons_zero, List.setIfInBounds_toArray, List.set_cons_zero, List.set_cons_succ])
          refine wpAnyG_take 6 (v := ?_) rfl (by kernel_rfl) (by kernel_rfl) (by kernel_rfl) (by kernel_rfl) (by rfl) (by kernel_rfl) (fun _ _ _ h => h) (by rfl) (fun w' hw' => ?_) gS ?_
          rotate_left
          focus (go_simp; (try with_reducible rfl); done)
          (try simp only [Act.put, List.getElem_toArray, List.getElem_cons_succ, List.getElem_cons_zero, List.setIfInBounds_toArray, List.set_cons_zero, List.set_cons_succ])
          refine wpAnyG_take 7 (v := ?_) rfl (by kernel_rfl) (by kernel_rfl) (by kernel_rfl) (by kernel_rfl) (by rfl) (by kernel_rfl) (fun _ _ _ h => h) (by rfl) (fun w' hw' => ?_) gS ?_
          rotate_left
          focus (have hh := HS.out _ hw'; go_split_ands; go_simp; (try with_reducible rfl); done)
          (try simp only [Act.put, List.getElem_toArray, List.getElem_cons_succ, List.getElem_cons_zero, List.setIfInBounds_toArray, List.set_cons_zero, List.set_cons_succ])
          refine wpAnyG_take 8 (v := ?_) rfl (by kernel_rfl) (by kernel_rfl) (by kernel_rfl) (by kernel_rfl) (by rfl) (by kernel_rfl) (fun _ _ _ h => h) (by rfl) (fun w' hw' => ?_) gS ?_
          rotate_left
          focus (go_simp; (try with_reducible rfl); done)
          (try simp only [Act.put, List.getElem_toArray, List.getElem_cons_succ, List.getElem_cons_zero, List.setIfInBounds_toArray, List.set_cons_zero, List.set_cons_succ])
          refine wpAnyG_take 9 (v := ?_) rfl (by kernel_rfl) (by kernel_rfl) (by kernel_rfl) (by kernel_rfl) (by rfl) (by kernel_rfl) (fun _ _ _ h => h) (by rfl) (fun w' hw' => ?_) gS ?_
          rotate_left
          focus (go_simp; (try with_reducible rfl); done)
          (try simp only [Act.put, List.getElem_toArray, List.getElem_cons_succ, List.getElem_cons_zero, List.setIfInBounds_toArray, List.set_cons_zero, List.set_cons_succ])
          refine wpAnyG_take 10 (v := ?_) rfl (by kernel_rfl) (by kernel_rfl) (by kernel_rfl) (by kernel_rfl) (by rfl) (by kernel_rfl) (fun _ _ _ h => h) (by rfl) (fun w' hw' => ?_) gS ?_
          rotate_left
          focus (go_simp; (try with_reducible rfl); done)
          (try simp only [Act.put, List.getElem_toArray, List.getElem_cons_succ, List.getElem_cons_zero, List.setIfInBounds_toArray, List.set_cons_zero, List.set_cons_succ])
          refine wpAnyG_take 11 (v := ?_) rfl (by kernel_rfl) (by kernel_rfl) (by kernel_rfl) (by kernel_rfl) (by rfl) (by kernel_rfl) (fun _ _ _ h => h) (by rfl) (fun w' hw' => ?_) gS ?_
          rotate_left
          focus (have hh := HS.out _ hw'; go_split_ands; go_simp; (try with_reducible rfl); done)
          (try simp only [Act.put, List.getElem_toArray, List.getElem_cons_succ, List.getElem_cons_zero, List.setIfInBounds_toArray, List.set_cons_zero, List.set_cons_succ])
          refine wpAnyG_one 12 (by kernel_rfl) rfl (by rfl) (fun K hK => ?_)
          (try simp only [List.getElem_toArray, List.getElem_cons_succ, List.getElem_cons_zero])
          go_simp
          go_at_call 63
          refine (rmul_f (HFV.out _ gS) (HFU.out _ gS) (by omega)).mono ?_
          rintro _ s7 ⟨b7, A7, k7, c7, B7, l7, d7, rfl, h7, z7, n7, m7⟩
          have gS : Ext wr s7 := Ext.trans gS z7
          (try go_wp2_with fail)
          refine hK.out _ _ (fun _ => gS) ?_
          clear hK K
          (try simp only [Act.put, List.getElem_toArray, List.getElem_cons_succ, List.getElem_cons_zero, List.setIfInBounds_toArray, List.set_cons_zero, List.set_cons_succ])
          refine wpAnyG_one 13 (by kernel_rfl) rfl (by rfl) (fun K hK => ?_)
          (try simp only [List.getElem_toArray, List.getElem_cons_succ, List.getElem_cons_zero])
          go_simp
          have gQ := gS
          go_at_call 34
          refine (radd_f (HMV.out _ gS) (FracV.any h7 HFM.out (by omega)) (HBD.out j (by omega)) HFM.out (by omega)).mono ?_
          rintro _ s8 ⟨b8, A8, k8, c8, B8, l8, d8, rfl, h8, z8, n8, m8⟩
          have gS : Ext wr s8 := Ext.trans gS z8
          have gR := gS
          (try go_wp2_with fail)
          refine hK.out _ _ (fun _ => gS) ?_
          clear hK K
          (try simp only [Act.put, List.getElem_toArray, List.getElem_cons_succ, List.getElem_cons_zero, List.setIfInBounds_toArray, List.set_cons_zero, List.set_cons_succ])
          obtain ⟨m0, m1, m2, gm0, gm1, gm2⟩ := HM.out _ gS
          refine wpAnyG_one 14 (by kernel_rfl) rfl (by rfl) (fun K hK => ?_)
          (try simp only [List.getElem_toArray, List.getElem_cons_succ, List.getElem_cons_zero])
          go_simp
          refine hK.out _ _ (fun h => absurd h (by decide)) ?_
          clear hK K
          (try simp only [Act.put, List.getElem_toArray, List.getElem_cons_succ, List.getElem_cons_zero, List.setIfInBounds_toArray, List.set_cons_zero, List.set_cons_succ])
          refine wpAnyG_done (by kernel_rfl) ?_ _
          go_wp2
          go_roundw
          case rel => exact ⟨j + 1, by omega, by go_num, b8, A8, k8, c8, B8, l8, d8, (HM.out _ gR).put _ _ _, FracV.put h8 n8 m8 (by have := gQ.size; omega) _ _ _, ext_put (hX.trans gR) (by omega) _ _ _, n8.mono (by have := hX.size; have := gQ.size; omega), m8.mono (by have := hX.size; have := gQ.size; omega)⟩
          case measure => simp [intOf]; omega
        · obtain rfl : C = j := by omega
          have hjj : ¬ ((C : Int) < (C : Int)) := by omega
          have HVM := Lib.hid (show FracV wr cc (.slice MA mk ml) (.slice MA' mk' ml') (f k) from by rw [HF.out k]; exact vM)
          have XM := xM
          have hyx : Ext w wr := hy.trans xM
          clear vM xM
          go_wp2_with (at_builtin; refine wpList_append_mine _ (by rfl) (.tmp 47) (.tmp 49) 39 (by rfl) w.heap.size 34 i0 (.agg #[.bool false, .slice none 0 0, .slice none 0 0]) 3 56 Try.underlying39 hi hz0 hz1 hz2 rfl (by omega) _ _ _ (by rfl) (HOWN.out.ext (ext_alloc XM _)).1.1 ⟨wr.heap.size, 0, none⟩ 1 1 [.bool cc, .slice MA mk ml, .slice MA' mk' ml'] (by rfl) rfl (cell_three wr _ _ _ _) (by simp [Value.oneCell']) (by rw [HU.out]; unfold maxLen; omega) (by rw [HU.out]; omega) (by have := hyx.size; simp; omega) ?_; intro v8 w8 ho8 hg8 hw8)
          have hO8 : OwnF 34 w.heap.size w.heap.size w8 v8 (ts ++ [⟨cc, .slice MA mk ml, .slice MA' mk' ml'⟩]) (uptoQ f (k + 1)) := by
            rw [uptoQ_succ]; exact OwnF.grow (t := ⟨cc, .slice MA mk ml, .slice MA' mk' ml'⟩) HOWN.out (ext_alloc XM _) (HVM.out.below (ext_alloc (Below.refl _ _) _)) nM nM' hy.size ho8 hg8 hw8
          have hx8 : Ext w w8 := OwnF.grow_ext HOWN.out hy (ext_alloc XM _) hg8
          clear ho8 hg8 hw8 HOWN nM nM'
          go_roundw
          case rel => exact ⟨k + 1, _, by omega, by go_num, hO8, hx8⟩
          case measure => simp [intOf]; omega
    · obtain rfl : n = k := by omega
      have hkk : ¬ ((n : Int) < (n : Int)) := by omega
      obtain ⟨A9, c9, rfl, _, _⟩ := hown.fracs.form
      rw [uptoQ_length] at hown ⊢
      have h9 := EFs.of_fracs (hown.fracs)
      clear hown
      go_wp2
      go_ret2
      exact ⟨_, _, rfl, h9, hy⟩
set_option maxHeartbeats 4000000 in
theorem rtimes_no {K : Bool} {v x : Value} {ls : List Nat} {m : Nat} {g : Nat → Rat} {w : World} (hv : LMat w v ls) (hx : EFs K w x m g) (hl : ¬ validL ls ∨ m ≠ ls.headD 0) :
    Calls Try.prog 36 #[v, x] w (fun e w' => e = .returned (.tuple #[.slice none 0 0, .int .i64 1]) ∧ Ext w w') := by
  have HVA := Lib.hid (rvalid_l hv)
  have HCO := Lib.hid (fun (w' : World) (h : Ext w w') => rcols_l (hv.below h))
  obtain ⟨A, cap, rfl, hc1, hc2⟩ := hv.form
  obtain ⟨A0, c0, rfl, hc3, hc4⟩ := hx.form
  clear hv hx
  obtain ⟨c, hc⟩ : ∃ c, c = ls.headD 0 := ⟨_, rfl⟩
  rw [← hc] at hl HCO
  obtain ⟨b, hb⟩ : ∃ b, b = decide (validL ls) := ⟨_, rfl⟩
  rw [← hb] at HVA
  have hb' : b = true → ((m : Int) != (c : Int)) = true := fun h => by
    rcases hl with hl | hl
    · exact absurd (of_decide_eq_true (hb.symm.trans h)) hl
    · rw [bne_iff_ne]; omega
  clear hb hc hl
  go_enter Try.func36, Try.ntmps36
  cases b with
  | false =>
    clear hb'
    go_wp2_with (go_at_call 22; (with_reducible refine HVA.out.mono ?_); rintro e w1 ⟨rfl, x1⟩)
    go_ret2
    exact ⟨rfl, x1⟩
  | true =>
    have hm := hb' rfl
    have hm' : ¬ (m = c) := by rw [bne_iff_ne] at hm; omega
    clear hb'
    go_wp2_with (first
      | (go_at_call 22; (with_reducible refine HVA.out.mono ?_); rintro e w1 ⟨rfl, x1⟩)
      | (go_at_call 52; (with_reducible refine (HCO.out _ x1).mono ?_); rintro e w2 ⟨rfl, hw2⟩; obtain rfl : w1 = w2 := hw2.symm))
    go_ret2
    exact ⟨rfl, x1⟩

end Go.Proofs.Ytmfigiifflljpaa
