/- law: MetalTimes. -/
import Derived.Test.YtmfigiifflljpaaMetV
import Derived.Test.YtmfigiifflljpaaMetJ
import Derived.Test.YtmfigiifflljpaaMetR
set_option linter.unusedVariables false
set_option linter.unusedSimpArgs false
set_option maxRecDepth 100000
namespace Go.Proofs.Ytmfigiifflljpaa
open Go.RowKit Num

theorem dot_fb4' {f g : Nat → Rat} {n Lg : Nat} (hf : ∀ k, k < n → FB (f k) 3) (hg : ∀ k, k < n → FB (g k) Lg) (hL : Lg ≤ 7) (hn : n ≤ 4) : FB (dotR f g n) 60 :=
  (sm_fb (f := fun j => f j * g j) (L := 3 + 7) (n := n) fun j hj => (FB.mul (hf j hj) (hg j hj) (by omega)).mono (by omega)).mono (by omega)
theorem dot_sub (x f g : Nat → Rat) (n : Nat) : dotR x (fun k => f k - g k) n = dotR x f n - dotR x g n := by
  unfold dotR
  rw [← sm_sub]
  exact sm_congr fun i _ => by grind
set_option maxHeartbeats 16000000 in
theorem law_MTimes {v u u2 : Value} {z : Nat × (Nat → Nat) × (Nat → Nat → FracIn)} {z2 z3 : Nat × (Nat → FracIn)} {w : World} (hv : InMat w v z.1 z.2.1 z.2.2) (hu : InFs w u z2.1 z2.2) (hu2 : InFs w u2 z3.1 z3.2) :
    Calls Try.prog 9 #[v, u, u2] w (fun e w' => e = .returned (.bool true) ∧ Ext w w') := by
  obtain ⟨n, len, F⟩ := z
  simp only at hv
  have HV := Lib.hid (fun (w' : World) (h : Ext w w') => hv.below h)
  have HFW := Lib.hid (fun (w' : World) (h : Ext w w') => rfew_l (hv.below h))
  have HLN := Lib.hid (fun (w' : World) (h : Ext w w') => (hv.below h).lens)
  obtain ⟨m, G⟩ := z2
  simp only at hu
  have HU := Lib.hid (fun (w' : World) (h : Ext w w') => hu.below h)
  have HSW := Lib.hid (fun (w' : World) (h : Ext w w') => rsmall_l (hu.below h))
  obtain ⟨m2, G2⟩ := z3
  simp only at hu2
  have HU2 := Lib.hid (fun (w' : World) (h : Ext w w') => hu2.below h)
  have HSW2 := Lib.hid (fun (w' : World) (h : Ext w w') => rsmall_l (hu2.below h))
  obtain ⟨A, cap, rfl, hc1, hc2⟩ := hv.form
  obtain ⟨A', cap', rfl, hc3, hc4'⟩ := hu.form
  obtain ⟨A2, cap2, rfl, hc5, hc6⟩ := hu2.form
  clear hv hu hu2
  by_cases hf : fewM n len F
  · by_cases hs2 : smallF m G
    · by_cases hs3 : smallF m2 G2
      · have HF := Lib.hid hf
        have HSF := Lib.hid hs2
        have HSF2 := Lib.hid hs3
        have HX := Lib.hid (fun (w' : World) (h : Ext w w') => ((HU.out w' h).efs hs2.2).1)
        have hfx := ((HU.out w (Below.refl _ _)).efs hs2.2).2
        obtain ⟨g, hgg⟩ : ∃ g : Nat → Rat, g = fun k => fxQ (G k) := ⟨_, rfl⟩
        have hkg : ∀ k, fxQ (G k) = g k := fun k => (congrFun hgg k).symm
        rw [← hgg] at HX
        simp only [hkg] at hfx
        have HX2 := Lib.hid (fun (w' : World) (h : Ext w w') => ((HU2.out w' h).efs hs3.2).1)
        have hfx2 := ((HU2.out w (Below.refl _ _)).efs hs3.2).2
        obtain ⟨g2, hgg2⟩ : ∃ g : Nat → Rat, g = fun k => fxQ (G2 k) := ⟨_, rfl⟩
        have hkg2 : ∀ k, fxQ (G2 k) = g2 k := fun k => (congrFun hgg2 k).symm
        rw [← hgg2] at HX2
        simp only [hkg2] at hfx2
        by_cases hok : validL (lensOf n len) ∧ m = (lensOf n len).headD 0
        · obtain ⟨hvl, hm⟩ := hok
          obtain ⟨hn4, c, hc4, hz, hl, hs, hhd⟩ := few_valid hf hvl
          have HE := Lib.hid (fun (w' : World) (h : Ext w w') => ((HV.out w' h).emat hl hs).1)
          have hfb := ((HV.out w (Below.refl _ _)).emat hl hs).2
          obtain ⟨M, hM⟩ : ∃ M : Mx, M = fun i j => fxQ (F i j) := ⟨_, rfl⟩
          rw [← hM] at HE hfb
          have HFB := Lib.hid hfb
          rw [hhd] at hm
          subst hm
          have HTI := Lib.hid (fun (w' : World) (h : Ext w w') => mtimes_ok (HE.out w' h) (HX.out w' h) hfb hfx (Nat.le_refl 3) (by omega) (by omega) (by omega) hz)
          have HRT := Lib.hid (fun (w' : World) (h : Ext w w') => rtimes_ok (HE.out w' h) (HX.out w' h) hfb hfx (Nat.le_refl 3) (by omega) (by omega) (by omega) hz)
          by_cases hmm : m2 = m
          · subst hmm
            have hmm2 : ((m2 : Int) != (m2 : Int)) = false := by simp
            have hnn2 : ((n : Int) != (n : Int)) = false := by simp
            have HT2 := Lib.hid (fun (w' : World) (h : Ext w w') => mtimes_ok (HE.out w' h) (HX2.out w' h) hfb hfx2 (Nat.le_refl 3) (by omega) (by omega) (by omega) hz)
            have HT3 := Lib.hid (fun (w' : World) (h : Ext w w') (y : Value) (hy : EFs true w' y m2 (fun k => g k - g2 k)) => (mtimes_ok (HE.out w' h) hy (hfb.mono (L' := 7) (by omega)) (fun k hk => FB.sub (hfx k hk) (hfx2 k hk) (by omega)) (by omega) (by omega) (by omega) (by omega) hz).mono fun e w' h => h.congr (g := fun i => dotR (M i) g m2 - dotR (M i) g2 m2) rfl rfl (fun k _ => dot_sub _ _ _ _))
            have HFX := Lib.hid hfx
            have HFX2 := Lib.hid hfx2
            have HP1 := Lib.hid (fun k (hk : k < n) => dot_fb4' (fun j hj => hfb k j hk hj) hfx (by omega) hc4)
            have HP2 := Lib.hid (fun k (hk : k < n) => dot_fb4' (fun j hj => hfb k j hk hj) hfx2 (by omega) hc4)
            obtain ⟨P, hP⟩ : ∃ P : Nat → Rat, P = fun i => dotR (M i) g m2 := ⟨_, rfl⟩
            obtain ⟨Q, hQ⟩ : ∃ Q : Nat → Rat, Q = fun i => dotR (M i) g2 m2 := ⟨_, rfl⟩
            have hPk : ∀ k, dotR (M k) g m2 = P k := fun k => (congrFun hP k).symm
            have hQk : ∀ k, dotR (M k) g2 m2 = Q k := fun k => (congrFun hQ k).symm
            rw [← hP] at HTI HRT
            rw [← hQ] at HT2
            simp only [hPk, hQk] at HT3 HP1 HP2
            obtain ⟨if0, hif, hz0, hz1, hz2⟩ := info_parts info_frac
            clear hf hs2 hs3 hvl hl hs hz hfb hfx hfx2 hM hgg hkg hgg2 hkg2 hP hQ hPk hQk hhd
            go_enter Try.func9, Try.ntmps9
            go_upto_region 8 with (first
                    | (go_at_call 12; (with_reducible refine (HFW.out _ x1).mono ?_); rintro e w2 hgb; obtain ⟨rfl, x2⟩ := hgb.t HF.out)
                    | (go_at_call 23; (with_reducible refine (HSW.out _ (x1.trans x2)).mono ?_); rintro e w3 hgb; obtain ⟨rfl, x3⟩ := hgb.t HSF.out)
                    | (go_at_call 23; (with_reducible refine (HSW2.out _ ((x1.trans x2).trans x3)).mono ?_); rintro e w4 hgb; obtain ⟨rfl, x4⟩ := hgb.t HSF2.out)
                    | (go_at_call 36; (with_reducible refine (HRT.out _ (((x1.trans x2).trans (x3.trans x4)).trans x5)).mono ?_); rintro e w6 ⟨A6, c6, rfl, h6, x6⟩)
                    | (go_at_call 26; (with_reducible refine (efracs_same (h5.below x6) h6 (fun _ _ => rfl)).mono ?_); rintro e w7 ⟨rfl, x7⟩)
                    | (go_at_call 27; (with_reducible refine (HT2.out _ (((x1.trans x2).trans (x3.trans x4)).trans ((x5.trans x6).trans x7))).mono ?_); rintro e w8 ⟨A8, c8, rfl, h8, x8⟩)
                    | (go_at_call 27; (with_reducible refine (HTI.out _ ((x1.trans x2).trans (x3.trans x4))).mono ?_); rintro e w5 ⟨A5, c5, rfl, h5, x5⟩)
                    | (go_at_call 11; (with_reducible refine awake_t.mono ?_); rintro e w1 ⟨rfl, x1⟩))
            have X8 : Ext w w8 := ((x1.trans x2).trans (x3.trans x4)).trans (((x5.trans x6).trans x7).trans x8)
            have HPP := Lib.hid (fun (w' : World) (h : Ext w8 w') => h5.below (((x6.trans x7).trans x8).trans h))
            have HQQ := Lib.hid (fun (w' : World) (h : Ext w8 w') => h8.below h)
            clear h5 h6 h8 x1 x2 x3 x4 x5 x6 x7 x8 hgb
            go_wp2
            go_loopw [13, 14] (fun rv iv wr => ∃ (k : Nat) (ts : List Fc), k ≤ m2 ∧ iv = .int .i64 k ∧ OwnF 34 w8.heap.size w8.heap.size wr rv ts (uptoQ (fun k => g k - g2 k) k) ∧ Ext w8 wr) (fun _ iv _ => m2 - (intOf iv).toNat)
            case atStart => exact ⟨0, [], Nat.zero_le _, rfl, OwnF.nil_ _ _ _ _, Below.refl _ _⟩
            case round =>
              obtain ⟨k, ts, hk, rfl, hown, hy⟩ := hrel
              by_cases hkn : k < m2
              · obtain ⟨b, o, n1, D1, p1, d1, D2, p2, d2, rfl, hb, e0, e1, e2, fx⟩ := (HX.out _ (X8.trans hy)).at_ hkn
                obtain ⟨b', o', n2, E1, q1, f1, E2, q2, f2, rfl, hb', e3, e4, e5, fy⟩ := (HX2.out _ (X8.trans hy)).at_ hkn
                have HU := Lib.hid (uptoQ_length (fun k => g k - g2 k) k)
                have HOWN := Lib.hid hown
                have hi1 : (0 : Int) ≤ (k : Int) := by omega
                have hi2 : (k : Int) < (m2 : Int) := by omega
                have HEX := Lib.hid (fun (w' : World) (h : Ext wr w') => (fx.below h).any (HFX.out k hkn) (Nat.le_refl 3) (by omega))
                have HEY := Lib.hid (fun (w' : World) (h : Ext wr w') => (fy.below h).any (HFX2.out k hkn) (Nat.le_refl 3) (by omega))
                have HFA := Lib.hid (HFX.out k hkn)
                have HFB2 := Lib.hid (HFX2.out k hkn)
                have HS := Lib.hid (fun (w' : World) (h : Ext wr w') => (⟨⟨(h.cell (p := ⟨b, o + k * 3, none⟩) hb).trans e0, (h.cell (p := ⟨b, o + k * 3 + 1, none⟩) hb).trans e1, (h.cell (p := ⟨b, o + k * 3 + 2, none⟩) hb).trans e2⟩, (h.cell (p := ⟨b', o' + k * 3, none⟩) hb').trans e3, (h.cell (p := ⟨b', o' + k * 3 + 1, none⟩) hb').trans e4, (h.cell (p := ⟨b', o' + k * 3 + 2, none⟩) hb').trans e5⟩ : (w'.cell? ⟨b, o + k * 3, none⟩ = some (.bool n1) ∧ w'.cell? ⟨b, o + k * 3 + 1, none⟩ = some (.slice D1 p1 d1) ∧ w'.cell? ⟨b, o + k * 3 + 2, none⟩ = some (.slice D2 p2 d2)) ∧ w'.cell? ⟨b', o' + k * 3, none⟩ = some (.bool n2) ∧ w'.cell? ⟨b', o' + k * 3 + 1, none⟩ = some (.slice E1 q1 f1) ∧ w'.cell? ⟨b', o' + k * 3 + 2, none⟩ = some (.slice E2 q2 f2)))
                clear hown fx fy e0 e1 e2 e3 e4 e5
                go_upto_region 12 with (fail)
                refine wp_region_G (fun w' => Ext wr w') [11, 12] (by kernel_rfl) ?_
                have gS : Ext wr wr.drew := (Below.refl _ _).drew
                refine wpAnyG_take 0 (v := ?_) rfl (by kernel_rfl) (by kernel_rfl) (by kernel_rfl) (by kernel_rfl) (by rfl) (by kernel_rfl) (fun _ _ _ h => h) (by rfl) (fun w' hw' => ?_) gS ?_
                rotate_left
                focus (go_simp; (try with_reducible rfl); done)
                (try simp only [Act.put, List.getElem_toArray, List.getElem_cons_succ, List.getElem_cons_zero, List.setIfInBounds_toArray, List.set_cons_zero, List.set_cons_succ])
                refine wpAnyG_take 1 (v := ?_) rfl (by kernel_rfl) (by kernel_rfl) (by kernel_rfl) (by kernel_rfl) (by rfl) (by kernel_rfl) (fun _ _ _ h => h) (by rfl) (fun w' hw' => ?_) gS ?_
                rotate_left
                focus (go_simp; (try with_reducible rfl); done)
                (try simp only [Act.put, List.getElem_toArray, List.getElem_cons_succ, List.getElem_cons_zero, List.setIfInBounds_toArray, List.set_cons_zero, List.set_cons_succ])
                refine wpAnyG_take 2 (v := ?_) rfl (by kernel_rfl) (by kernel_rfl) (by kernel_rfl) (by kernel_rfl) (by rfl) (by kernel_rfl) (fun _ _ _ h => h) (by rfl) (fun w' hw' => ?_) gS ?_
                rotate_left
                focus (go_simp; (try with_reducible rfl); done)
                (try simp only [Act.put, List.getElem_toArray, List.getElem_cons_succ, List.getElem_cons_zero, List.setIfInBounds_toArray, List.set_cons_zero, List.set_cons_succ])
                refine wpAnyG_take 3 (v := ?_) rfl (by kernel_rfl) (by kernel_rfl) (by kernel_rfl) (by kernel_rfl) (by rfl) (by kernel_rfl) (fun _ _ _ h => h) (by rfl) (fun w' hw' => ?_) gS ?_
                rotate_left
                focus (go_simp; (try with_reducible rfl); done)
                (try simp only [Act.put, List.getElem_toArray, List.getElem_cons_succ, List.getElem_cons_zero, List.setIfInBounds_toArray, List.set_cons_zero, List.set_cons_succ])
                refine wpAnyG_take 4 (v := ?_) rfl (by kernel_rfl) (by kernel_rfl) (by kernel_rfl) (by kernel_rfl) (by rfl) (by kernel_rfl) (fun _ _ _ h => h) (by rfl) (fun w' hw' => ?_) gS ?_
                rotate_left
                focus (have hh := HS.out _ hw'; go_split_ands; go_simp; (try with_reducible rfl); done)
                (try simp only [Act.put, List.getElem_toArray, List.getElem_cons_succ, List.getElem_cons_zero, List.setIfInBounds_toArray, List.set_cons_zero, List.set_cons_succ])
                refine wpAnyG_take 5 (v := ?_) rfl (by kernel_rfl) (by kernel_rfl) (by kernel_rfl) (by kernel_rfl) (by rfl) (by kernel_rfl) (fun _ _ _ h => h) (by rfl) (fun w' hw' => ?_) gS ?_
                rotate_left
                focus (go_simp; (try with_reducible rfl); done)
                (try simp only [Act.put, List.getElem_toArray, List.getElem_cons_succ, List.getElem_cons_zero, List.setIfInBounds_toArray, List.set_cons_zero, List.set_cons_succ])
                refine wpAnyG_take 6 (v := ?_) rfl (by kernel_rfl) (by kernel_rfl) (by kernel_rfl) (by kernel_rfl) (by rfl) (by kernel_rfl) (fun _ _ _ h => h) (by rfl) (fun w' hw' => ?_) gS ?_
                rotate_left
                focus (go_simp; (try with_reducible rfl); done)
                (try simp only [Act.put, List.getElem_toArray, List.getElem_cons_succ, List.getElem_cons_zero, List.setIfInBounds_toArray, List.set_cons_zero, List.set_cons_succ])
                refine wpAnyG_take 7 (v := ?_) rfl (by kernel_rfl) (by kernel_rfl) (by kernel_rfl) (by kernel_rfl) (by rfl) (by kernel_rfl) (fun _ _ _ h => h) (by rfl) (fun w' hw' => ?_) gS ?_
                rotate_left
                focus (go_simp; (try with_reducible rfl); done)
                (try simp only [Act.put, List.getElem_toArray, List.getElem_cons_succ, List.getElem_cons_zero, List.setIfInBounds_toArray, List.set_cons_zero, List.set_cons_succ])
                refine wpAnyG_take 8 (v := ?_) rfl (by kernel_rfl) (by kernel_rfl) (by kernel_rfl) (by kernel_rfl) (by rfl) (by kernel_rfl) (fun _ _ _ h => h) (by rfl) (fun w' hw' => ?_) gS ?_
                rotate_left
                focus (have hh := HS.out _ hw'; go_split_ands; go_simp; (try with_reducible rfl); done)
                (try simp only [Act.put, List.getElem_toArray, List.getElem_cons_succ, List.getElem_cons_zero, List.setIfInBounds_toArray, List.set_cons_zero, List.set_cons_succ])
                refine wpAnyG_one 9 (by kernel_rfl) rfl (by rfl) (fun K hK => ?_)
                (try simp only [List.getElem_toArray, List.getElem_cons_succ, List.getElem_cons_zero])
                go_simp
                go_at_call 37
                refine (rsub_f (HEX.out _ gS) (HEY.out _ gS) HFA.out HFB2.out (by omega)).mono ?_
                rintro _ w7 ⟨b7, A7, k7, c7, B7, l7, d7, rfl, h7, x7, n7, m7⟩
                have hgs := gS.size
                have gS : Ext wr w7 := Ext.trans gS x7
                have e7 := gS
                (try go_wp2_with fail)
                refine hK.out _ _ (fun _ => gS) ?_
                clear hK K
                (try simp only [Act.put, List.getElem_toArray, List.getElem_cons_succ, List.getElem_cons_zero, List.setIfInBounds_toArray, List.set_cons_zero, List.set_cons_succ])
                refine wpAnyG_one 10 (by kernel_rfl) rfl (by rfl) (fun K hK => ?_)
                (try simp only [List.getElem_toArray, List.getElem_cons_succ, List.getElem_cons_zero])
                go_simp
                have gS : Ext wr (w7.alloc (.cells #[.bool b7, .slice A7 k7 c7, .slice B7 l7 d7] 34)) := ext_alloc gS _
                (try go_wp2_with fail)
                refine hK.out _ _ (fun _ => gS) ?_
                clear hK K
                (try simp only [Act.put, List.getElem_toArray, List.getElem_cons_succ, List.getElem_cons_zero, List.setIfInBounds_toArray, List.set_cons_zero, List.set_cons_succ])
                refine wpAnyG_one 11 (by kernel_rfl) rfl (by rfl) (fun K hK => ?_)
                (try simp only [List.getElem_toArray, List.getElem_cons_succ, List.getElem_cons_zero])
                refine wp_append_mine _ (.tmp 88) (.tmp 98) 39 (by rfl) w8.heap.size 34 if0 (.agg #[.bool false, .slice none 0 0, .slice none 0 0]) 3 56 Try.underlying39 hif hz0 hz1 hz2 rfl (by omega) _ _ _ (by rfl) (HOWN.out.ext (ext_alloc e7 _)).1.1 ⟨w7.heap.size, 0, none⟩ 1 1 [.bool b7, .slice A7 k7 c7, .slice B7 l7 d7] (by rfl) rfl (cell_three w7 _ _ _ _) (by simp [Value.oneCell']) (by rw [HU.out]; unfold maxLen; omega) (by rw [HU.out]; omega) (by have := hy.size; have := e7.size; simp; omega) ?_
                intro v11 w11 ho11 hg11 hw11
                have hO11 : OwnF 34 w8.heap.size w8.heap.size w11 v11 (ts ++ [⟨b7, .slice A7 k7 c7, .slice B7 l7 d7⟩]) (uptoQ (fun k => g k - g2 k) (k + 1)) := by
                  rw [uptoQ_succ]; exact OwnF.grow (t := ⟨b7, .slice A7 k7 c7, .slice B7 l7 d7⟩) HOWN.out (ext_alloc e7 _) (h7.below (ext_alloc (Below.refl _ _) _)) (n7.mono hgs) (m7.mono hgs) hy.size ho11 hg11 hw11
                have hx11 : Ext w8 w11 := OwnF.grow_ext HOWN.out hy (ext_alloc e7 _) hg11
                clear ho11 hg11 hw11 HOWN h7 x7 n7 m7
                refine hK.out _ _ (fun h => absurd h (by decide)) ?_
                clear hK K
                (try simp only [Act.put, List.getElem_toArray, List.getElem_cons_succ, List.getElem_cons_zero, List.setIfInBounds_toArray, List.set_cons_zero, List.set_cons_succ])
                refine wpAnyG_one 12 (by kernel_rfl) rfl (by rfl) (fun K hK => ?_)
                (try simp only [List.getElem_toArray, List.getElem_cons_succ, List.getElem_cons_zero])
                go_simp
                refine hK.out _ _ (fun h => absurd h (by decide)) ?_
                clear hK K
                (try simp only [Act.put, List.getElem_toArray, List.getElem_cons_succ, List.getElem_cons_zero, List.setIfInBounds_toArray, List.set_cons_zero, List.set_cons_succ])
                refine wpAnyG_done (by kernel_rfl) ?_ _
                go_wp2
                go_roundw
                case rel => exact ⟨k + 1, _, by omega, by go_num, hO11, hx11⟩
                case measure => simp [intOf]; omega
              · obtain rfl : m2 = k := by omega
                have hkk : ¬ ((m2 : Int) < (m2 : Int)) := by omega
                obtain ⟨A9, c9, rfl, _, _⟩ := hown.fracs.form
                rw [uptoQ_length] at hown ⊢
                have h9 := EFs.of_fracs (hown.fracs)
                have HZ9 := Lib.hid h9
                clear hown h9
                go_wp2_with (go_at_call 27; (with_reducible refine (HT3.out _ (X8.trans hy) _ HZ9.out).mono ?_); rintro e w13 ⟨A13, c13, rfl, h13, x13⟩)
                have HSS := Lib.hid (fun (w' : World) (h : Ext w13 w') => h13.below h)
                have X13 : Ext w8 w13 := hy.trans x13
                clear h13 x13 hy
                go_loopw [17] (fun iv wr => ∃ i : Nat, i ≤ n ∧ iv = .int .i64 i ∧ Ext w13 wr) (fun iv _ => n - (intOf iv).toNat)
                case atStart => exact ⟨0, Nat.zero_le _, rfl, Below.refl _ _⟩
                case round =>
                  obtain ⟨i, hi, rfl, hy⟩ := hrel
                  by_cases hin : i < n
                  · obtain ⟨b, o, n1, D1, p1, d1, D2, p2, d2, rfl, hb, e0, e1, e2, fs⟩ := (HSS.out _ hy).at_ hin
                    obtain ⟨b', o', n2, E1, q1, f1, E2, q2, f2, rfl, hb', e3, e4, e5, fp⟩ := (HPP.out _ (X13.trans hy)).at_ hin
                    obtain ⟨b'', o'', n3, H1, r1, s1, H2, r2, s2, rfl, hb'', e6, e7, e8, fq⟩ := (HQQ.out _ (X13.trans hy)).at_ hin
                    have hi1 : (0 : Int) ≤ (i : Int) := by omega
                    have hi2 : (i : Int) < (n : Int) := by omega
                    have HFS := Lib.hid fs.can
                    have HFP := Lib.hid (fp.can.any (HP1.out i hin) (by omega))
                    have HFQ := Lib.hid (fq.can.any (HP2.out i hin) (by omega))
                    have HF1 := Lib.hid (HP1.out i hin)
                    have HF2 := Lib.hid (HP2.out i hin)
                    have HS := Lib.hid (fun (w' : World) (h : Ext wr w') => (⟨⟨(h.cell (p := ⟨b, o + i * 3, none⟩) hb).trans e0, (h.cell (p := ⟨b, o + i * 3 + 1, none⟩) hb).trans e1, (h.cell (p := ⟨b, o + i * 3 + 2, none⟩) hb).trans e2⟩, ⟨(h.cell (p := ⟨b', o' + i * 3, none⟩) hb').trans e3, (h.cell (p := ⟨b', o' + i * 3 + 1, none⟩) hb').trans e4, (h.cell (p := ⟨b', o' + i * 3 + 2, none⟩) hb').trans e5⟩, (h.cell (p := ⟨b'', o'' + i * 3, none⟩) hb'').trans e6, (h.cell (p := ⟨b'', o'' + i * 3 + 1, none⟩) hb'').trans e7, (h.cell (p := ⟨b'', o'' + i * 3 + 2, none⟩) hb'').trans e8⟩ : (w'.cell? ⟨b, o + i * 3, none⟩ = some (.bool n1) ∧ w'.cell? ⟨b, o + i * 3 + 1, none⟩ = some (.slice D1 p1 d1) ∧ w'.cell? ⟨b, o + i * 3 + 2, none⟩ = some (.slice D2 p2 d2)) ∧ (w'.cell? ⟨b', o' + i * 3, none⟩ = some (.bool n2) ∧ w'.cell? ⟨b', o' + i * 3 + 1, none⟩ = some (.slice E1 q1 f1) ∧ w'.cell? ⟨b', o' + i * 3 + 2, none⟩ = some (.slice E2 q2 f2)) ∧ w'.cell? ⟨b'', o'' + i * 3, none⟩ = some (.bool n3) ∧ w'.cell? ⟨b'', o'' + i * 3 + 1, none⟩ = some (.slice H1 r1 s1) ∧ w'.cell? ⟨b'', o'' + i * 3 + 2, none⟩ = some (.slice H2 r2 s2)))
                    clear fs fp fq e0 e1 e2 e3 e4 e5 e6 e7 e8
                    go_upto_region 19 with (fail)
                    go_cut [146] (fun bv wx => bv = .bool false ∧ Ext wr wx)
                    case first =>
                      refine wp_region_G (fun w' => Ext wr w') [14] (by kernel_rfl) ?_
                      have gS : Ext wr wr.drew := (Below.refl _ _).drew
                      refine wpAnyG_take 0 (v := ?_) rfl (by kernel_rfl) (by kernel_rfl) (by kernel_rfl) (by kernel_rfl) (by rfl) (by kernel_rfl) (fun _ _ _ h => h) (by rfl) (fun w' hw' => ?_) gS ?_
                      rotate_left
                      focus (go_simp; (try with_reducible rfl); done)
                      (try simp only [Act.put, List.getElem_toArray, List.getElem_cons_succ, List.getElem_cons_zero, List.setIfInBounds_toArray, List.set_cons_zero, List.set_cons_succ])
                      refine wpAnyG_take 1 (v := ?_) rfl (by kernel_rfl) (by kernel_rfl) (by kernel_rfl) (by kernel_rfl) (by rfl) (by kernel_rfl) (fun _ _ _ h => h) (by rfl) (fun w' hw' => ?_) gS ?_
                      rotate_left
                      focus (go_simp; (try with_reducible rfl); done)
                      (try simp only [Act.put, List.getElem_toArray, List.getElem_cons_succ, List.getElem_cons_zero, List.setIfInBounds_toArray, List.set_cons_zero, List.set_cons_succ])
                      refine wpAnyG_take 2 (v := ?_) rfl (by kernel_rfl) (by kernel_rfl) (by kernel_rfl) (by kernel_rfl) (by rfl) (by kernel_rfl) (fun _ _ _ h => h) (by rfl) (fun w' hw' => ?_) gS ?_
                      rotate_left
                      focus (go_simp; (try with_reducible rfl); done)
                      (try simp only [Act.put, List.getElem_toArray, List.getElem_cons_succ, List.getElem_cons_zero, List.setIfInBounds_toArray, List.set_cons_zero, List.set_cons_succ])
                      refine wpAnyG_take 3 (v := ?_) rfl (by kernel_rfl) (by kernel_rfl) (by kernel_rfl) (by kernel_rfl) (by rfl) (by kernel_rfl) (fun _ _ _ h => h) (by rfl) (fun w' hw' => ?_) gS ?_
                      rotate_left
                      focus (have hh := HS.out _ hw'; go_split_ands; go_simp; (try with_reducible rfl); done)
                      (try simp only [Act.put, List.getElem_toArray, List.getElem_cons_succ, List.getElem_cons_zero, List.setIfInBounds_toArray, List.set_cons_zero, List.set_cons_succ])
                      refine wpAnyG_take 4 (v := ?_) rfl (by kernel_rfl) (by kernel_rfl) (by kernel_rfl) (by kernel_rfl) (by rfl) (by kernel_rfl) (fun _ _ _ h => h) (by rfl) (fun w' hw' => ?_) gS ?_
                      rotate_left
                      focus (go_simp; (try with_reducible rfl); done)
                      (try simp only [Act.put, List.getElem_toArray, List.getElem_cons_succ, List.getElem_cons_zero, List.setIfInBounds_toArray, List.set_cons_zero, List.set_cons_succ])
                      refine wpAnyG_take 5 (v := ?_) rfl (by kernel_rfl) (by kernel_rfl) (by kernel_rfl) (by kernel_rfl) (by rfl) (by kernel_rfl) (fun _ _ _ h => h) (by rfl) (fun w' hw' => ?_) gS ?_
                      rotate_left
                      focus (go_simp; (try with_reducible rfl); done)
                      (try simp only [Act.put, List.getElem_toArray, List.getElem_cons_succ, List.getElem_cons_zero, List.setIfInBounds_toArray, List.set_cons_zero, List.set_cons_succ])
                      refine wpAnyG_take 6 (v := ?_) rfl (by kernel_rfl) (by kernel_rfl) (by kernel_rfl) (by kernel_rfl) (by rfl) (by kernel_rfl) (fun _ _ _ h => h) (by rfl) (fun w' hw' => ?_) gS ?_
                      rotate_left
                      focus (go_simp; (try with_reducible rfl); done)
                      (try simp only [Act.put, List.getElem_toArray, List.getElem_cons_succ, List.getElem_cons_zero, List.setIfInBounds_toArray, List.set_cons_zero, List.set_cons_succ])
                      refine wpAnyG_take 7 (v := ?_) rfl (by kernel_rfl) (by kernel_rfl) (by kernel_rfl) (by kernel_rfl) (by rfl) (by kernel_rfl) (fun _ _ _ h => h) (by rfl) (fun w' hw' => ?_) gS ?_
                      rotate_left
                      focus (have hh := HS.out _ hw'; go_split_ands; go_simp; (try with_reducible rfl); done)
                      (try simp only [Act.put, List.getElem_toArray, List.getElem_cons_succ, List.getElem_cons_zero, List.setIfInBounds_toArray, List.set_cons_zero, List.set_cons_succ])
                      refine wpAnyG_take 8 (v := ?_) rfl (by kernel_rfl) (by kernel_rfl) (by kernel_rfl) (by kernel_rfl) (by rfl) (by kernel_rfl) (fun _ _ _ h => h) (by rfl) (fun w' hw' => ?_) gS ?_
                      rotate_left
                      focus (go_simp; (try with_reducible rfl); done)
                      (try simp only [Act.put, List.getElem_toArray, List.getElem_cons_succ, List.getElem_cons_zero, List.setIfInBounds_toArray, List.set_cons_zero, List.set_cons_succ])
                      refine wpAnyG_take 9 (v := ?_) rfl (by kernel_rfl) (by kernel_rfl) (by kernel_rfl) (by kernel_rfl) (by rfl) (by kernel_rfl) (fun _ _ _ h => h) (by rfl) (fun w' hw' => ?_) gS ?_
                      rotate_left
                      focus (go_simp; (try with_reducible rfl); done)
                      (try simp only [Act.put, List.getElem_toArray, List.getElem_cons_succ, List.getElem_cons_zero, List.setIfInBounds_toArray, List.set_cons_zero, List.set_cons_succ])
                      refine wpAnyG_take 10 (v := ?_) rfl (by kernel_rfl) (by kernel_rfl) (by kernel_rfl) (by kernel_rfl) (by rfl) (by kernel_rfl) (fun _ _ _ h => h) (by rfl) (fun w' hw' => ?_) gS ?_
                      rotate_left
                      focus (go_simp; (try with_reducible rfl); done)
                      (try simp only [Act.put, List.getElem_toArray, List.getElem_cons_succ, List.getElem_cons_zero, List.setIfInBounds_toArray, List.set_cons_zero, List.set_cons_succ])
                      refine wpAnyG_take 11 (v := ?_) rfl (by kernel_rfl) (by kernel_rfl) (by kernel_rfl) (by kernel_rfl) (by rfl) (by kernel_rfl) (fun _ _ _ h => h) (by rfl) (fun w' hw' => ?_) gS ?_
                      rotate_left
                      focus (have hh := HS.out _ hw'; go_split_ands; go_simp; (try with_reducible rfl); done)
                      (try simp only [Act.put, List.getElem_toArray, List.getElem_cons_succ, List.getElem_cons_zero, List.setIfInBounds_toArray, List.set_cons_zero, List.set_cons_succ])
                      refine wpAnyG_one 12 (by kernel_rfl) rfl (by rfl) (fun K hK => ?_)
                      (try simp only [List.getElem_toArray, List.getElem_cons_succ, List.getElem_cons_zero])
                      go_simp
                      go_at_call 37
                      refine (rsub_f (HFP.out.below gS) (HFQ.out.below gS) HF1.out HF2.out (by omega)).mono ?_
                      rintro _ s7 ⟨b7, A7, k7, c7, B7, l7, d7, rfl, h7, x7, _, _⟩
                      have gS : Ext wr s7 := Ext.trans gS x7
                      (try go_wp2_with fail)
                      refine hK.out _ _ (fun _ => gS) ?_
                      clear hK K
                      (try simp only [Act.put, List.getElem_toArray, List.getElem_cons_succ, List.getElem_cons_zero, List.setIfInBounds_toArray, List.set_cons_zero, List.set_cons_succ])
                      refine wpAnyG_one 13 (by kernel_rfl) rfl (by rfl) (fun K hK => ?_)
                      (try simp only [List.getElem_toArray, List.getElem_cons_succ, List.getElem_cons_zero])
                      go_simp
                      go_at_call 20
                      refine (bfrac_same (HFS.out.below gS) h7).mono ?_
                      rintro _ s8 ⟨rfl, x8⟩
                      have gS : Ext wr s8 := Ext.trans gS x8
                      have gR := gS
                      (try go_wp2_with fail)
                      refine hK.out _ _ (fun _ => gS) ?_
                      clear hK K
                      (try simp only [Act.put, List.getElem_toArray, List.getElem_cons_succ, List.getElem_cons_zero, List.setIfInBounds_toArray, List.set_cons_zero, List.set_cons_succ])
                      refine wpAnyG_one 14 (by kernel_rfl) rfl (by rfl) (fun K hK => ?_)
                      (try simp only [List.getElem_toArray, List.getElem_cons_succ, List.getElem_cons_zero])
                      go_simp
                      refine hK.out _ _ (fun h => absurd h (by decide)) ?_
                      clear hK K
                      (try simp only [Act.put, List.getElem_toArray, List.getElem_cons_succ, List.getElem_cons_zero, List.setIfInBounds_toArray, List.set_cons_zero, List.set_cons_succ])
                      refine wpAnyG_done (by kernel_rfl) ?_ _
                      go_wp2
                      go_meet
                      exact ⟨rfl, gR⟩
                    case rest =>
                      obtain ⟨rfl, hxx⟩ := hcut
                      go_wp2
                      go_roundw
                      case rel => exact ⟨i + 1, by omega, by go_num, hy.trans hxx⟩
                      case measure => simp [intOf]; omega
                  · obtain rfl : n = i := by omega
                    have hii : ¬ ((n : Int) < (n : Int)) := by omega
                    go_wp2
                    go_ret
                    exact ⟨rfl, X8.trans (X13.trans hy)⟩
          · have hmm2 : ((m2 : Int) != (m : Int)) = true := by rw [bne_iff_ne]; omega
            clear hf hs2 hs3 hvl hl hs hz hfb hfx hfx2 hM hgg hkg hgg2 hkg2 hhd
            go_enter Try.func9, Try.ntmps9
            go_wp2_with (first
                    | (go_at_call 12; (with_reducible refine (HFW.out _ x1).mono ?_); rintro e w2 hgb; obtain ⟨rfl, x2⟩ := hgb.t HF.out)
                    | (go_at_call 23; (with_reducible refine (HSW.out _ (x1.trans x2)).mono ?_); rintro e w3 hgb; obtain ⟨rfl, x3⟩ := hgb.t HSF.out)
                    | (go_at_call 23; (with_reducible refine (HSW2.out _ ((x1.trans x2).trans x3)).mono ?_); rintro e w4 hgb; obtain ⟨rfl, x4⟩ := hgb.t HSF2.out)
                    | (go_at_call 36; (with_reducible refine (HRT.out _ (((x1.trans x2).trans (x3.trans x4)).trans x5)).mono ?_); rintro e w6 ⟨A6, c6, rfl, h6, x6⟩)
                    | (go_at_call 26; (with_reducible refine (efracs_same (h5.below (x6.trans x7)) (h6.below x7) (fun _ _ => rfl)).mono ?_); rintro e w8 ⟨rfl, x8⟩; have y8 := x7.trans x8)
                    | (go_at_call 26; (with_reducible refine (efracs_same (h5.below x6) (h6) (fun _ _ => rfl)).mono ?_); rintro e w7 ⟨rfl, x7⟩)
                    | (go_at_call 27; (with_reducible refine (HTI.out _ ((x1.trans x2).trans (x3.trans x4))).mono ?_); rintro e w5 ⟨A5, c5, rfl, h5, x5⟩)
                    | (go_at_call 11; (with_reducible refine awake_t.mono ?_); rintro e w1 ⟨rfl, x1⟩))
            go_ret
            exact ⟨rfl, ((x1.trans x2).trans (x3.trans x4)).trans ((x5.trans x6).trans y8)⟩
        · have hno : ¬ validL (lensOf n len) ∨ m ≠ (lensOf n len).headD 0 := by
            by_cases h1 : validL (lensOf n len)
            · exact .inr fun h2 => hok ⟨h1, h2⟩
            · exact .inl h1
          have HTI := Lib.hid (fun (w' : World) (h : Ext w w') => mtimes_no (HLN.out w' h) (HX.out w' h) hno)
          have HRT := Lib.hid (fun (w' : World) (h : Ext w w') => rtimes_no (HLN.out w' h) (HX.out w' h) hno)
          clear hf hs2 hs3 hok hno hgg hkg hgg2 hkg2 hfx hfx2
          go_enter Try.func9, Try.ntmps9
          go_wp2_with (first
                  | (go_at_call 12; (with_reducible refine (HFW.out _ x1).mono ?_); rintro e w2 hgb; obtain ⟨rfl, x2⟩ := hgb.t HF.out)
                  | (go_at_call 23; (with_reducible refine (HSW.out _ (x1.trans x2)).mono ?_); rintro e w3 hgb; obtain ⟨rfl, x3⟩ := hgb.t HSF.out)
                  | (go_at_call 23; (with_reducible refine (HSW2.out _ ((x1.trans x2).trans x3)).mono ?_); rintro e w4 hgb; obtain ⟨rfl, x4⟩ := hgb.t HSF2.out)
                  | (go_at_call 36; (with_reducible refine (HRT.out _ (((x1.trans x2).trans (x3.trans x4)).trans x5)).mono ?_); rintro e w6 ⟨rfl, x6⟩)
                  | (go_at_call 26; (with_reducible refine (efracs_same (EFs.nil_ true _ (fun _ => 0)) (EFs.nil_ true _ (fun _ => 0)) (fun _ _ => rfl)).mono ?_); rintro e w8 ⟨rfl, x8⟩; have y8 := x7.trans x8)
                  | (go_at_call 26; (with_reducible refine (efracs_same (EFs.nil_ true _ (fun _ => 0)) (EFs.nil_ true _ (fun _ => 0)) (fun _ _ => rfl)).mono ?_); rintro e w7 ⟨rfl, x7⟩)
                  | (go_at_call 27; (with_reducible refine (HTI.out _ ((x1.trans x2).trans (x3.trans x4))).mono ?_); rintro e w5 ⟨rfl, x5⟩)
                  | (go_at_call 11; (with_reducible refine awake_t.mono ?_); rintro e w1 ⟨rfl, x1⟩))
          go_ret
          exact ⟨rfl, ((x1.trans x2).trans (x3.trans x4)).trans ((x5.trans x6).trans y8)⟩
      · have HF := Lib.hid hf
        have HSF := Lib.hid hs2
        have HSF2 := Lib.hid hs3
        clear hf hs2 hs3
        go_enter Try.func9, Try.ntmps9
        go_wp2_with (first
                | (go_at_call 12; (with_reducible refine (HFW.out _ x1).mono ?_); rintro e w2 hgb; obtain ⟨rfl, x2⟩ := hgb.t HF.out)
                | (go_at_call 23; (with_reducible refine (HSW.out _ (x1.trans x2)).mono ?_); rintro e w3 hgb; obtain ⟨rfl, x3⟩ := hgb.t HSF.out)
                | (go_at_call 23; (with_reducible refine (HSW2.out _ ((x1.trans x2).trans x3)).mono ?_); rintro e w4 hgb; obtain ⟨rfl, x4⟩ := hgb.f HSF2.out)
                | (go_at_call 11; (with_reducible refine awake_t.mono ?_); rintro e w5 ⟨rfl, x5⟩; have y5 := ((x2.trans x3).trans x4).trans x5)
                | (go_at_call 11; (with_reducible refine awake_t.mono ?_); rintro e w1 ⟨rfl, x1⟩))
        go_ret
        exact ⟨rfl, x1.trans y5⟩
    · have HF := Lib.hid hf
      have HSF := Lib.hid hs2
      clear hf hs2
      go_enter Try.func9, Try.ntmps9
      go_wp2_with (first
              | (go_at_call 12; (with_reducible refine (HFW.out _ x1).mono ?_); rintro e w2 hgb; obtain ⟨rfl, x2⟩ := hgb.t HF.out)
              | (go_at_call 23; (with_reducible refine (HSW.out _ (x1.trans x2)).mono ?_); rintro e w3 hgb; obtain ⟨rfl, x3⟩ := hgb.f HSF.out)
              | (go_at_call 11; (with_reducible refine awake_t.mono ?_); rintro e w4 ⟨rfl, x4⟩; have y4 := (x2.trans x3).trans x4)
              | (go_at_call 11; (with_reducible refine awake_t.mono ?_); rintro e w1 ⟨rfl, x1⟩))
      go_ret
      exact ⟨rfl, x1.trans y4⟩
  · have HF := Lib.hid hf
    clear hf
    go_enter Try.func9, Try.ntmps9
    go_wp2_with (first
            | (go_at_call 12; (with_reducible refine (HFW.out _ x1).mono ?_); rintro e w2 hgb; obtain ⟨rfl, x2⟩ := hgb.f HF.out)
            | (go_at_call 11; (with_reducible refine awake_t.mono ?_); rintro e w4 ⟨rfl, x4⟩; have y4 := (x2).trans x4)
            | (go_at_call 11; (with_reducible refine awake_t.mono ?_); rintro e w1 ⟨rfl, x1⟩))
    go_ret
    exact ⟨rfl, x1.trans y4⟩

end Go.Proofs.Ytmfigiifflljpaa
