/- law: MetalDets. -/
import Derived.Test.YtmfigiifflljpaaMetV
import Derived.Test.YtmfigiifflljpaaMetJ
import Derived.Test.YtmfigiifflljpaaRFracN
set_option linter.unusedVariables false
set_option linter.unusedSimpArgs false
set_option maxRecDepth 100000
namespace Go.Proofs.Ytmfigiifflljpaa
open Go.RowKit Num

theorem u8_of_wfM {a : Int} (h : (Lit.int .u8 a).wf = true) : 0 ≤ a ∧ a ≤ 255 := by
  simp [Lit.wf, IntKind.has, IntKind.min, IntKind.max, IntKind.bits, IntKind.signed] at h
  omega
theorem outer_mat {K : Bool} {base n c : Nat} {w : World} {v : Value} {us : List Value} {M : Mx} (h : w.ownsRow base 39 1 v n us) (hf : ∀ (k : Nat) (u : Value), us[k]? = some u → EFs K w u c (M k)) : EMat K w v n c M := by
  have ho := h
  rcases ho.2 with ⟨rfl, h0⟩ | ⟨g, cap, cur, rfl, _, _, hc, hm, _, _⟩
  · subst h0
    exact EMat.nil_ _ _ _ _
  · exact ⟨_, cap, us, rfl, hc, hm, Reads.of_own h, hf⟩
theorem sgn_zeroM {q : Rat} : sgnQ q = 0 ↔ q = 0 := sgnQ_eq_zero q
set_option maxHeartbeats 4000000 in
theorem mdet_no {v : Value} {ls : List Nat} {w : World} (hv : LMat w v ls) (hl : ¬ validL ls ∨ ls.headD 0 ≠ ls.length) :
    Calls Try.prog 17 #[v] w (GivesFN w 1) := by
  have HVA := Lib.hid (fun (w' : World) (h : Ext w w') => mvalid_l (hv.below h))
  have HCO := Lib.hid (fun (w' : World) (h : Ext w w') => mcols_l (hv.below h))
  obtain ⟨A, cap, rfl, hc1, hc2⟩ := hv.form
  clear hv
  obtain ⟨c, hc⟩ : ∃ c, c = ls.headD 0 := ⟨_, rfl⟩
  obtain ⟨m, hm⟩ : ∃ m, m = ls.length := ⟨_, rfl⟩
  rw [← hc] at hl HCO
  rw [← hm] at hl HCO HVA hc1 ⊢
  obtain ⟨b, hb⟩ : ∃ b, b = decide (validL ls) := ⟨_, rfl⟩
  rw [← hb] at HVA
  have hb' : b = true → ((c : Int) != (m : Int)) = true := fun h => by
    rcases hl with hl | hl
    · exact absurd (of_decide_eq_true (hb.symm.trans h)) hl
    · rw [bne_iff_ne]; omega
  clear hb hc hl hm
  go_enter Try.func17, Try.ntmps17
  go_upto_region 1 with (fail)
  have hF0 := FBox.new w (.bool false) (.slice none 0 0) (.slice none 0 0) 34
  have x0 : Ext w (w.alloc (.cells #[.bool false, .slice none 0 0, .slice none 0 0] 34)) := ext_alloc (Below.refl _ _) _
  have hs0 : w.heap.size + 1 ≤ (w.alloc (.cells #[.bool false, .slice none 0 0, .slice none 0 0] 34)).heap.size := by simp
  generalize w.alloc (.cells #[.bool false, .slice none 0 0, .slice none 0 0] 34) = W0 at *
  have HF := Lib.hid (fun (w' : World) (h : Ext W0 w') => hF0.below h)
  have HE := Lib.hid x0
  have f0 : Ext W0 W0 := Below.refl _ _
  obtain ⟨r0, r1, r2, g0, g1, g2⟩ := hF0
  clear x0
  cases b with
  | false =>
    clear hb'
    go_wp2_with (go_at_call 21; (with_reducible refine (HVA.out _ HE.out).mono ?_); rintro e w1 ⟨rfl, x1⟩; obtain ⟨r0, r1, r2, g0, g1, g2⟩ := HF.out _ x1)
    obtain ⟨q0, q1, q2⟩ := set3 r0 r1 r2 (.bool false) (.slice none 0 0) (.slice none 0 0)
    refine bodyPost_ret (v := .tuple #[.agg #[.bool false, .slice none 0 0, .slice none 0 0], .int .i64 1]) (by simp [results, Try.results17, go_sem, q0, q1, q2]) rfl ?_
    exact ⟨rfl, ext_put (HE.out.trans x1) (by omega) _ _ _⟩
  | true =>
    have hmm := hb' rfl
    have hm' : ¬ (c = m) := by rw [bne_iff_ne] at hmm; omega
    clear hb'
    go_wp2_with (first
      | (go_at_call 21; (with_reducible refine (HVA.out _ HE.out).mono ?_); rintro e w1 ⟨rfl, x1⟩; obtain ⟨r0, r1, r2, g0, g1, g2⟩ := HF.out _ x1)
      | (go_at_call 44; (with_reducible refine (HCO.out _ (HE.out.trans x1)).mono ?_); rintro e w2 ⟨rfl, hw2⟩; obtain rfl : w1 = w2 := hw2.symm))
    obtain ⟨q0, q1, q2⟩ := set3 r0 r1 r2 (.bool false) (.slice none 0 0) (.slice none 0 0)
    refine bodyPost_ret (v := .tuple #[.agg #[.bool false, .slice none 0 0, .slice none 0 0], .int .i64 1]) (by simp [results, Try.results17, go_sem, q0, q1, q2]) rfl ?_
    exact ⟨rfl, ext_put (HE.out.trans x1) (by omega) _ _ _⟩
theorem fbm_minr {M : Mx} {n L i : Nat} (h : FBm M (n + 1) (n + 1) L) (hi : i < n + 1) : FBm (minr M i) n n L := fun a b ha hb => by
  rw [minr_at]
  split
  · exact h a (b + 1) (by omega) (by omega)
  · exact h (a + 1) (b + 1) (by omega) (by omega)
theorem fb_sg (i : Nat) : FB (sg i) 3 := by
  unfold sg
  split
  · exact fb_oneM
  · exact FB.neg fb_oneM
def dB : Nat → Nat
  | 0 => 3
  | n + 1 => 3 + (3 + 7 + dB n + 1) * (n + 1)
theorem det_fb : ∀ {n : Nat} {M : Mx}, FBm M n n 7 → FB (det n M) (dB n)
  | 0, M, _ => fb_oneM
  | n + 1, M, h => by
    rw [det_succ]
    exact sm_fb (f := fun i => sg i * M i 0 * det n (minr M i)) (L := 3 + 7 + dB n) (n := n + 1) fun i hi => FB.mul (FB.mul (fb_sg i) (h i 0 hi (by omega)) (by omega)) (det_fb (fbm_minr h hi)) (by omega)
theorem dB_le {n : Nat} (h : n ≤ 4) : dB n ≤ 1000 := by
  have : n = 0 ∨ n = 1 ∨ n = 2 ∨ n = 3 ∨ n = 4 := by omega
  rcases this with rfl | rfl | rfl | rfl | rfl <;> decide
theorem own_mid {w : World} {base e size g n cap k p : Nat} {us : List Value} (h : w.ownsRow base e size (.slice (some ⟨g, 0, none⟩) n cap) n us) (hp : p < n * size) (x : Value) : ∃ u, (w.setCell ⟨g, k, none⟩ x).cell? ⟨g, p, none⟩ = some u ∧ (w.setCell ⟨g, k, none⟩ x).frozen? ⟨g, p, none⟩ = false := by
  obtain ⟨h1, _⟩ := World.ownsRow.stored h k x
  have hl := h1.1
  obtain ⟨u, hu⟩ : ∃ u, (us.set k x)[p]? = some u := ⟨_, List.getElem?_eq_getElem (by omega)⟩
  exact ⟨u, (h1.cellAt p hp).trans hu, h1.frozenAt p⟩
theorem set_rows {K : Bool} {w : World} {c : Nat} {us : List Value} {M : Mx} {x : Nat} {u : Value} {f : Nat → Rat} (h : ∀ (k : Nat) (u : Value), us[k]? = some u → EFs K w u c (M k)) (hu : EFs K w u c f) : ∀ (k : Nat) (v : Value), (us.set x u)[k]? = some v → EFs K w v c (setr M x f k) := fun k v hv => by
  unfold setr
  by_cases hk : k = x
  · subst hk
    have hl := (List.getElem?_eq_some_iff.1 hv).1
    rw [List.length_set] at hl
    rw [List.getElem?_set_self hl] at hv
    cases hv
    rw [if_pos rfl]
    exact hu
  · rw [List.getElem?_set_ne (fun e => hk e.symm)] at hv
    rw [if_neg hk]
    exact h k v hv
theorem swp_setr (M : Mx) (x y : Nat) (hne : x ≠ y) : setr (setr M x (M y)) y (M x) = swp M x y := by
  funext i
  unfold setr
  rw [swp_at]
  by_cases h1 : i = y
  · rw [if_pos h1, if_neg (fun h => hne (h.symm.trans h1)), if_pos h1]
  · rw [if_neg h1]
    by_cases h2 : i = x
    · rw [if_pos h2, if_pos h2]
    · rw [if_neg h2, if_neg h2, if_neg h1]
theorem sum_kept {e B n g : Nat} {w w' : World} {v : Value} {ts : List Fc} {f : Nat → Rat} (h : OwnF e B B w v ts (uptoQ f n)) (hg : w.grownBy w' (some g)) (hgB : g < B) : EFs true w' v n f := by
  refine EFs.of_fracs (OwnF.fracs (e := e) (base := B) (B := B) (ts := ts) ⟨⟨h.1.1.kept hg ?_, h.1.2⟩, fun k t q ht hq => ?_⟩)
  · refine .inr fun e => ?_
    have := (h.1.1.lt g e).1
    omega
  · obtain ⟨m1, m2, m3, m4, m5⟩ := h.2 k t q ht hq
    have hf : ∀ {x : Value}, New B x → Far x (.slice (some ⟨g, 0, none⟩) 0 0) := fun hx => Far.of_new hx fun b hb => by cases hb; exact hgB
    exact ⟨m1.kept (v := .slice (some ⟨g, 0, none⟩) 0 0) hg (hf m4) (hf m5), m2, m3, m4, m5⟩
set_option maxHeartbeats 16000000 in
theorem law_MDets {v : Value} {i0 k0 : Int} {z : Nat × (Nat → Nat) × (Nat → Nat → FracIn)} {w : World} (hv : InMat w v z.1 z.2.1 z.2.2) (hi0 : 0 ≤ i0 ∧ i0 ≤ 255) (hk0 : 0 ≤ k0 ∧ k0 ≤ 255) :
    Calls Try.prog 8 #[v, .int .u8 i0, .int .u8 k0] w (fun e w' => e = .returned (.bool true) ∧ Ext w w') := by
  obtain ⟨n, len, F⟩ := z
  simp only at hv
  have HV := Lib.hid (fun (w' : World) (h : Ext w w') => hv.below h)
  have HFW := Lib.hid (fun (w' : World) (h : Ext w w') => rfew_l (hv.below h))
  have HLN := Lib.hid (fun (w' : World) (h : Ext w w') => (hv.below h).lens)
  have HVL := Lib.hid (fun (w' : World) (h : Ext w w') => rvalid_l (hv.below h).lens)
  obtain ⟨A, cap, rfl, hc1, hc2⟩ := hv.form
  clear hv
  by_cases hf : fewM n len F
  · by_cases hn0 : n = 0
    · have HF := Lib.hid hf
      clear hf
      subst hn0
      go_enter Try.func8, Try.ntmps8
      go_wp2_with (first
              | (go_at_call 12; (with_reducible refine (HFW.out _ x1).mono ?_); rintro e w2 hgb; obtain ⟨rfl, x2⟩ := hgb.t HF.out)
              | (go_at_call 11; (with_reducible refine awake_t.mono ?_); rintro e w4 ⟨rfl, x4⟩; have y4 := (x2).trans x4)
              | (go_at_call 11; (with_reducible refine awake_t.mono ?_); rintro e w1 ⟨rfl, x1⟩))
      go_ret
      exact ⟨rfl, x1.trans y4⟩
    · have hn0i : ((n : Int) == 0) = false := by rw [beq_eq_false_iff_ne]; omega
      have hn0j : ¬ ((n : Int) = 0) := by omega
      have HF := Lib.hid hf
      by_cases hsq : validL (lensOf n len) ∧ (lensOf n len).headD 0 = n
      · obtain ⟨hvl, hsq⟩ := hsq
        obtain ⟨hn4, c, hc4, hz, hl, hs, hhd⟩ := few_valid hf hvl
        have HE := Lib.hid (fun (w' : World) (h : Ext w w') => ((HV.out w' h).emat hl hs).1)
        have hfb := ((HV.out w (Below.refl _ _)).emat hl hs).2
        obtain ⟨M, hM⟩ : ∃ M : Mx, M = fun i j => fxQ (F i j) := ⟨_, rfl⟩
        rw [← hM] at HE hfb
        have HFB := Lib.hid hfb
        rw [hhd] at hsq
        subst hsq
        rw [decide_eq_true hvl] at HVL
        have HDE := Lib.hid (fun (w' : World) (h : Ext w w') => mdet_ok (HE.out w' h) (Nat.le_refl 3) (by omega) hfb (by omega))
        have HRK := Lib.hid (fun (w' : World) (h : Ext w w') => mrank_ok (HE.out w' h) (Nat.le_refl 3) (by omega) hfb (by omega) (by omega) hz)
        obtain ⟨D, hD⟩ : ∃ D, D = det c M := ⟨_, rfl⟩
        obtain ⟨r, hr⟩ : ∃ r, r = rk M c c := ⟨_, rfl⟩
        have hall := (rdet_all M c).2
        rw [← hD, ← hr] at hall
        rw [← hD] at HDE
        rw [← hr] at HRK
        have HALL := Lib.hid hall
        have HDD := Lib.hid hD
        obtain ⟨zz, hzz⟩ : ∃ zz, sgnQ D = zz := ⟨_, rfl⟩
        have HZZ := Lib.hid hzz
        have hcmp : ((zz == 0) != decide ((r : Int) < (c : Int))) = false := by
          by_cases h0 : D = 0
          · have h1 : zz = 0 := by rw [← hzz]; exact sgn_zeroM.2 h0
            have h2 : (r : Int) < (c : Int) := by have := hall.1 h0; omega
            rw [h1, decide_eq_true h2]; rfl
          · have h1 : ¬ zz = 0 := fun h => h0 (sgn_zeroM.1 (by rw [hzz, h]))
            have h2 : ¬ ((r : Int) < (c : Int)) := fun h => h0 (hall.2 (by omega))
            rw [decide_eq_false h2, beq_eq_false_iff_ne.2 h1]; rfl
        have hcc : ((c : Int) != (c : Int)) = false := by simp
        obtain ⟨x, hx⟩ : ∃ x, x = i0.toNat % c := ⟨_, rfl⟩
        obtain ⟨y, hy⟩ : ∃ y, y = k0.toNat % c := ⟨_, rfl⟩
        have hxc : x < c := by rw [hx]; exact Nat.mod_lt _ (by omega)
        have hyc : y < c := by rw [hy]; exact Nat.mod_lt _ (by omega)
        have htx : i0.tmod (c : Int) = (x : Int) := by
          rw [hx, Int.tmod_eq_emod_of_nonneg hi0.1, Int.natCast_emod, Int.toNat_of_nonneg hi0.1]
        have hty : k0.tmod (c : Int) = (y : Int) := by
          rw [hy, Int.tmod_eq_emod_of_nonneg hk0.1, Int.natCast_emod, Int.toNat_of_nonneg hk0.1]
        have hwi : IntKind.i64.wrap i0 = i0 := wrap_in (by omega)
        have hwk : IntKind.i64.wrap k0 = k0 := wrap_in (by omega)
        have hwx : IntKind.i64.wrap (x : Int) = (x : Int) := wrap_in (by omega)
        have hwy : IntKind.i64.wrap (y : Int) = (y : Int) := wrap_in (by omega)
        have h00 : (0 : Int) < (c : Int) := by omega
        obtain ⟨AV, cV, us, e, hu2, hu3, hu4, hu5⟩ := HE.out w (Below.refl _ _)
        injection e with e1 e2 e3
        subst e1 e3
        obtain ⟨ad, rfl, hadb, hadc⟩ := hu4.2 (by omega)
        have HUS := Lib.hid hu5
        have hul : us.length = c := by have := hu4.1; omega
        have HAC := Lib.hid (fun (w' : World) (h : Ext w w') (j : Nat) (u : Value) (hu : us[j]? = some u) => (h.cell (p := ad.add j) (by rw [block_of_add]; exact hadb)).trans (hadc j u hu))
        have HONE := Lib.hid (fun u (hu : u ∈ us) => show u.oneCell' = true from by
          obtain ⟨k, hk⟩ := List.getElem?_of_mem hu
          obtain ⟨A, c', rfl, _, _⟩ := (hu5 k u hk).form
          rfl)
        obtain ⟨j0, hj, hy0, hy1, hy2⟩ := info_parts info_fl
        obtain ⟨if0, hif, hz0, hz1, hz2⟩ := info_parts info_frac
        clear hf hvl hl hs hz hhd hM hD hr hall hzz hx hy hu4 hadc hu5
        go_enter Try.func8, Try.ntmps8
        go_upto_region 9 with (first
                | (go_at_call 12; (with_reducible refine (HFW.out _ x1).mono ?_); rintro e w2 hgb; obtain ⟨rfl, x2⟩ := hgb.t HF.out)
                | (go_at_call 17; (with_reducible refine (HDE.out _ (x1.trans x2)).mono ?_); rintro e w3 ⟨b3, A3, k3, c3, B3, l3, d3, rfl, h3, x3, _, _⟩)
                | (go_at_call 22; (with_reducible refine (HVL.out _ ((x1.trans x2).trans (ext_alloc x3 _))).mono ?_); rintro e w4 ⟨rfl, x4⟩; obtain ⟨b9, o9, A9, cp9, e9, hb9, hc9, _⟩ := (HE.out _ (((x1.trans x2).trans (ext_alloc x3 _)).trans x4)).at_ (k := 0) (by omega); cases e9; rw [Nat.add_zero] at hc9)
                | (go_at_call 13; (with_reducible refine (HRK.out _ (((x1.trans x2).trans (ext_alloc x3 _)).trans x4)).mono ?_); rintro e w5 ⟨rfl, x5⟩)
                | (go_at_call 11; (with_reducible refine awake_t.mono ?_); rintro e w1 ⟨rfl, x1⟩))
        have hBx := FBox.new w3 (.bool b3) (.slice A3 k3 c3) (.slice B3 l3 d3) 34
        have x3a : Ext w3 (w3.alloc (.cells #[.bool b3, .slice A3 k3 c3, .slice B3 l3 d3] 34)) := ext_alloc (Below.refl _ _) _
        have h3 := h3.below x3a
        obtain ⟨BD, hBD⟩ : ∃ BD, BD = w3.heap.size := ⟨_, rfl⟩
        rw [← hBD] at hBx ⊢
        generalize w3.alloc (.cells #[.bool b3, .slice A3 k3 c3, .slice B3 l3 d3] 34) = W3 at *
        have HBD := Lib.hid (fun (w' : World) (h : Ext W3 w') => hBx.below h)
        have HDV := Lib.hid (fun (w' : World) (h : Ext W3 w') => h3.below h)
        have HDF := Lib.hid (show FB D 1000 from by rw [HDD.out]; exact (det_fb (hfb.mono (by omega))).mono (dB_le hc4))
        have HSG := Lib.hid (fun (w' : World) (h : Ext W3 w') => show Calls Try.prog 32 #[.agg #[.bool b3, .slice A3 k3 c3, .slice B3 l3 d3]] w' (fun e w'' => e = .returned (.int .i64 zz) ∧ Ext w' w'') from by
          have h1 := rsign_f (FracV.any (h3.below h) HDF.out (by omega)) (by omega)
          rwa [HZZ.out] at h1)
        have X5 : Ext w w5 := (x1.trans x2).trans ((x3.trans x3a).trans (x4.trans x5))
        have Y5 : Ext W3 w5 := x4.trans x5
        clear hBx h3 x1 x2 x3 x3a x4 x5 hBD hgb
        go_cut [67] (fun bv wx => bv = .bool false ∧ Ext w5 wx)
        case first =>
          obtain ⟨m0, m1, m2, _, _, _⟩ := HBD.out _ Y5
          by_cases hD0 : D = 0
          · have hz0' : zz = 0 := by rw [← HZZ.out]; exact sgn_zeroM.2 hD0
            have hri : (r : Int) < (c : Int) := by have := HALL.out.1 hD0; omega
            clear hcmp
            subst hz0'
            go_wp2_with (go_at_call 32; (with_reducible refine (HSG.out _ Y5).mono ?_); rintro e w6 ⟨rfl, x6⟩)
            go_meet
            exact ⟨rfl, x6⟩
          · have hz0' : ¬ zz = 0 := fun h => hD0 (sgn_zeroM.1 (by rw [HZZ.out, h]))
            have hz1' : (zz == 0) = false := by rw [beq_eq_false_iff_ne]; exact hz0'
            have hri : ¬ ((r : Int) < (c : Int)) := fun h => hD0 (HALL.out.2 (by omega))
            clear hcmp
            go_wp2_with (go_at_call 32; (with_reducible refine (HSG.out _ Y5).mono ?_); rintro e w6 ⟨rfl, x6⟩)
            go_meet
            exact ⟨by (try simp); omega, x6⟩
        case rest =>
          obtain ⟨rfl, hx6⟩ := hcut
          have X6 : Ext w wc := X5.trans hx6
          have Y6 : Ext W3 wc := Y5.trans hx6
          clear X5 Y5 hx6 hcmp
          by_cases hxy : x = y
          · subst hxy
            have hxx : ((x : Int) == (x : Int)) = true := by simp
            go_wp2
            go_ret
            exact ⟨rfl, X6⟩
          · have hxx : ((x : Int) == (y : Int)) = false := by rw [beq_eq_false_iff_ne]; omega
            have hxy' : ¬ ((x : Int) = (y : Int)) := by omega
            have HNE := Lib.hid hxy
            have hown0 : (wc.alloc (.cells #[] 39)).ownsRow w.heap.size 39 1 (.slice (some ⟨wc.heap.size, 0, none⟩) 0 0) 0 [] := World.ownsRow_lit (base := w.heap.size) wc #[] 0 X6.size (by unfold maxLen; omega) rfl
            have HOWN0 := Lib.hid hown0
            obtain ⟨w6, hw6⟩ : ∃ w6, w6 = wc := ⟨_, rfl⟩
            subst hw6
            clear hown0
            go_upto_region 16 with (at_builtin; refine wpList_append_mine _ (by rfl) (.tmp 81) (.tmp 82) 22 (by rfl) w.heap.size 39 j0 (.slice none 0 0) 1 24 Try.underlying22 hj hy0 hy1 hy2 rfl (by omega) _ 0 [] (by rfl) HOWN0.out ⟨b9, o9, none⟩ c cap us (by rfl) (by omega) (HAC.out _ (ext_alloc X6 _)) HONE.out (by unfold maxLen; omega) (by omega) (by have := (X6).size; simp; omega) ?_; intro v8 w8 ho8 hg8 hw8)
            rw [List.nil_append, Nat.zero_add] at ho8
            have X8 : Ext w w8 := Below.grown (ext_alloc X6 _) hg8 (by have := X6.size; simp; omega) (fun g hg => by cases hg; exact X6.size)
            have Y8 : Ext W3 w8 := Below.grown (ext_alloc Y6 _) hg8 (by have := Y6.size; simp; omega) (fun g hg => by cases hg; exact Y6.size)
            obtain ⟨gb, cb, rfl, hgb1, hgb2⟩ := ho8.form (by omega)
            have YGB : W3.heap.size ≤ gb := by
              rcases hw8 with h | h
              · have h2 : gb = w6.heap.size := Option.some.inj h
                have := Y6.size
                omega
              · have h2 := h gb rfl
                have := Y6.size
                (try simp at h2)
                omega
            obtain ⟨ux, hux⟩ : ∃ ux, us[x]? = some ux := ⟨_, List.getElem?_eq_getElem (by omega)⟩
            obtain ⟨uy, huy⟩ : ∃ uy, us[y]? = some uy := ⟨_, List.getElem?_eq_getElem (by omega)⟩
            obtain ⟨Ax, cx, rfl, _, _⟩ := (HUS.out x ux hux).form
            obtain ⟨Ay, cy, rfl, _, _⟩ := (HUS.out y uy huy).form
            have HO8 := Lib.hid ho8
            have HUX := Lib.hid hux
            have HUY := Lib.hid huy
            have hxi1 : (0 : Int) ≤ (x : Int) := by omega
            have hxi2 : (x : Int) < (c : Int) := by omega
            have hyi1 : (0 : Int) ≤ (y : Int) := by omega
            have hyi2 : (y : Int) < (c : Int) := by omega
            have HS := Lib.hid (fun (w' : World) (h : Ext w8 w') => (⟨(h.cell (p := ⟨gb, x, none⟩) hgb2).trans ((ho8.cellAt x (by omega)).trans hux), (h.cell (p := ⟨gb, y, none⟩) hgb2).trans ((ho8.cellAt y (by omega)).trans huy), (h.frozen (p := ⟨gb, x, none⟩) hgb2).trans (ho8.frozenAt x), (h.frozen (p := ⟨gb, y, none⟩) hgb2).trans (ho8.frozenAt y)⟩ : w'.cell? ⟨gb, x, none⟩ = some (.slice Ax c cx) ∧ w'.cell? ⟨gb, y, none⟩ = some (.slice Ay c cy) ∧ w'.frozen? ⟨gb, x, none⟩ = false ∧ w'.frozen? ⟨gb, y, none⟩ = false))
            clear ho8 hg8 hw8 hux huy X6 Y6 HOWN0
            go_cut [] (fun wx => Hid (EMat false wx (.slice (some ⟨gb, 0, none⟩) c cb) c c (swp M x y)) ∧ Ext w wx ∧ Ext W3 wx)
            case first =>
              refine wp_region_H (fun w' => Ext w8 w') [13, 14, 15] (by kernel_rfl) ?_
              have gS : Ext w8 w8.drew := (Below.refl _ _).drew
              refine wpAnyH_take 0 (v := ?_) rfl (by kernel_rfl) (by kernel_rfl) (by kernel_rfl) (by kernel_rfl) (by kernel_rfl) (fun _ _ _ h => h) (by rfl) (fun w' hw' => ?_) gS ?_
              rotate_left
              focus (go_simp; (try with_reducible rfl); done)
              (try simp only [Act.put, List.getElem_toArray, List.getElem_cons_succ, List.getElem_cons_zero, List.setIfInBounds_toArray, List.set_cons_zero, List.set_cons_succ])
              refine wpAnyH_take 1 (v := ?_) rfl (by kernel_rfl) (by kernel_rfl) (by kernel_rfl) (by kernel_rfl) (by kernel_rfl) (fun _ _ _ h => h) (by rfl) (fun w' hw' => ?_) gS ?_
              rotate_left
              focus (go_simp; (try with_reducible rfl); done)
              (try simp only [Act.put, List.getElem_toArray, List.getElem_cons_succ, List.getElem_cons_zero, List.setIfInBounds_toArray, List.set_cons_zero, List.set_cons_succ])
              refine wpAnyH_takeF 2 (v := ?_) rfl (by kernel_rfl) (by kernel_rfl) (by kernel_rfl) (by kernel_rfl) (fun _ _ _ h => h) (by rfl) (fun w' => ?_) ?_
              rotate_left
              focus (go_simp; (try with_reducible rfl); done)
              (try simp only [Act.put, List.getElem_toArray, List.getElem_cons_succ, List.getElem_cons_zero, List.setIfInBounds_toArray, List.set_cons_zero, List.set_cons_succ])
              refine wpAnyH_takeF 3 (v := ?_) rfl (by kernel_rfl) (by kernel_rfl) (by kernel_rfl) (by kernel_rfl) (fun _ _ _ h => h) (by rfl) (fun w' => ?_) ?_
              rotate_left
              focus (go_simp; (try with_reducible rfl); done)
              (try simp only [Act.put, List.getElem_toArray, List.getElem_cons_succ, List.getElem_cons_zero, List.setIfInBounds_toArray, List.set_cons_zero, List.set_cons_succ])
              refine wpAnyH_take 4 (v := ?_) rfl (by kernel_rfl) (by kernel_rfl) (by kernel_rfl) (by kernel_rfl) (by kernel_rfl) (fun _ _ _ h => h) (by rfl) (fun w' hw' => ?_) gS ?_
              rotate_left
              focus (go_simp; (try with_reducible rfl); done)
              (try simp only [Act.put, List.getElem_toArray, List.getElem_cons_succ, List.getElem_cons_zero, List.setIfInBounds_toArray, List.set_cons_zero, List.set_cons_succ])
              refine wpAnyH_take 5 (v := ?_) rfl (by kernel_rfl) (by kernel_rfl) (by kernel_rfl) (by kernel_rfl) (by kernel_rfl) (fun _ _ _ h => h) (by rfl) (fun w' hw' => ?_) gS ?_
              rotate_left
              focus (go_simp; (try with_reducible rfl); done)
              (try simp only [Act.put, List.getElem_toArray, List.getElem_cons_succ, List.getElem_cons_zero, List.setIfInBounds_toArray, List.set_cons_zero, List.set_cons_succ])
              refine wpAnyH_take 6 (v := ?_) rfl (by kernel_rfl) (by kernel_rfl) (by kernel_rfl) (by kernel_rfl) (by kernel_rfl) (fun _ _ _ h => h) (by rfl) (fun w' hw' => ?_) gS ?_
              rotate_left
              focus (go_simp; (try with_reducible rfl); done)
              (try simp only [Act.put, List.getElem_toArray, List.getElem_cons_succ, List.getElem_cons_zero, List.setIfInBounds_toArray, List.set_cons_zero, List.set_cons_succ])
              refine wpAnyH_take 7 (v := ?_) rfl (by kernel_rfl) (by kernel_rfl) (by kernel_rfl) (by kernel_rfl) (by kernel_rfl) (fun _ _ _ h => h) (by rfl) (fun w' hw' => ?_) gS ?_
              rotate_left
              focus (have hh := HS.out _ hw'; go_split_ands; go_simp; (try with_reducible rfl); done)
              (try simp only [Act.put, List.getElem_toArray, List.getElem_cons_succ, List.getElem_cons_zero, List.setIfInBounds_toArray, List.set_cons_zero, List.set_cons_succ])
              refine wpAnyH_take 8 (v := ?_) rfl (by kernel_rfl) (by kernel_rfl) (by kernel_rfl) (by kernel_rfl) (by kernel_rfl) (fun _ _ _ h => h) (by rfl) (fun w' hw' => ?_) gS ?_
              rotate_left
              focus (go_simp; (try with_reducible rfl); done)
              (try simp only [Act.put, List.getElem_toArray, List.getElem_cons_succ, List.getElem_cons_zero, List.setIfInBounds_toArray, List.set_cons_zero, List.set_cons_succ])
              refine wpAnyH_take 9 (v := ?_) rfl (by kernel_rfl) (by kernel_rfl) (by kernel_rfl) (by kernel_rfl) (by kernel_rfl) (fun _ _ _ h => h) (by rfl) (fun w' hw' => ?_) gS ?_
              rotate_left
              focus (go_simp; (try with_reducible rfl); done)
              (try simp only [Act.put, List.getElem_toArray, List.getElem_cons_succ, List.getElem_cons_zero, List.setIfInBounds_toArray, List.set_cons_zero, List.set_cons_succ])
              refine wpAnyH_take 10 (v := ?_) rfl (by kernel_rfl) (by kernel_rfl) (by kernel_rfl) (by kernel_rfl) (by kernel_rfl) (fun _ _ _ h => h) (by rfl) (fun w' hw' => ?_) gS ?_
              rotate_left
              focus (go_simp; (try with_reducible rfl); done)
              (try simp only [Act.put, List.getElem_toArray, List.getElem_cons_succ, List.getElem_cons_zero, List.setIfInBounds_toArray, List.set_cons_zero, List.set_cons_succ])
              refine wpAnyH_take 11 (v := ?_) rfl (by kernel_rfl) (by kernel_rfl) (by kernel_rfl) (by kernel_rfl) (by kernel_rfl) (fun _ _ _ h => h) (by rfl) (fun w' hw' => ?_) gS ?_
              rotate_left
              focus (have hh := HS.out _ hw'; go_split_ands; go_simp; (try with_reducible rfl); done)
              (try simp only [Act.put, List.getElem_toArray, List.getElem_cons_succ, List.getElem_cons_zero, List.setIfInBounds_toArray, List.set_cons_zero, List.set_cons_succ])
              refine wpAnyH_take 12 (v := ?_) rfl (by kernel_rfl) (by kernel_rfl) (by kernel_rfl) (by kernel_rfl) (by kernel_rfl) (fun _ _ _ h => h) (by rfl) (fun w' hw' => ?_) gS ?_
              rotate_left
              focus (go_simp; (try with_reducible rfl); done)
              (try simp only [Act.put, List.getElem_toArray, List.getElem_cons_succ, List.getElem_cons_zero, List.setIfInBounds_toArray, List.set_cons_zero, List.set_cons_succ])
              obtain ⟨t0, t1, t2, t3⟩ := HS.out _ (Below.refl _ _)
              obtain ⟨um, m0, m1⟩ := own_mid (k := x) (p := y) HO8.out (by omega) (.slice Ay c cy)
              refine wpAnyH_one 13 (by kernel_rfl) rfl (by rfl) (fun K hK => ?_)
              (try simp only [List.getElem_toArray, List.getElem_cons_succ, List.getElem_cons_zero])
              go_simp
              refine hK.out _ _ (fun h => absurd h (by decide)) ?_
              clear hK K
              (try simp only [Act.put, List.getElem_toArray, List.getElem_cons_succ, List.getElem_cons_zero, List.setIfInBounds_toArray, List.set_cons_zero, List.set_cons_succ])
              refine wpAnyH_one 14 (by kernel_rfl) rfl (by rfl) (fun K hK => ?_)
              (try simp only [List.getElem_toArray, List.getElem_cons_succ, List.getElem_cons_zero])
              go_simp
              refine hK.out _ _ (fun h => absurd h (by decide)) ?_
              clear hK K
              (try simp only [Act.put, List.getElem_toArray, List.getElem_cons_succ, List.getElem_cons_zero, List.setIfInBounds_toArray, List.set_cons_zero, List.set_cons_succ])
              refine wpAnyH_one 15 (by kernel_rfl) rfl (by rfl) (fun K hK => ?_)
              (try simp only [List.getElem_toArray, List.getElem_cons_succ, List.getElem_cons_zero])
              go_simp
              refine hK.out _ _ (fun h => absurd h (by decide)) ?_
              clear hK K
              (try simp only [Act.put, List.getElem_toArray, List.getElem_cons_succ, List.getElem_cons_zero, List.setIfInBounds_toArray, List.set_cons_zero, List.set_cons_succ])
              refine wpAnyH_done (by kernel_rfl) ?_ _
              go_wp2
              go_meet
              have h2 := (World.ownsRow.stored (World.ownsRow.stored HO8.out x (.slice Ay c cy)).1 y (.slice Ax c cx)).1
              have X9 := swap_ext (k := x) (p := y) X8 hgb1 (.slice Ay c cy) (.slice Ax c cx)
              have Y9 := swap_ext (k := x) (p := y) Y8 YGB (.slice Ay c cy) (.slice Ax c cx)
              have hm := outer_mat h2 (fun k u hu => (set_rows (set_rows (fun k u hu => HUS.out k u hu) (HUS.out y _ HUY.out)) (HUS.out x _ HUX.out) k u hu).below X9)
              rw [swp_setr _ _ _ HNE.out] at hm
              exact ⟨Lib.hid (hm.below (ext_drew (Below.refl _ _))), ext_drew X9, ext_drew Y9⟩
            case rest =>
              obtain ⟨HMB, X9, Y9⟩ := hcut
              clear HS X8 Y8 HO8
              obtain ⟨w9, hw9⟩ : ∃ w9, w9 = wc := ⟨_, rfl⟩
              subst hw9
              have hown0 : (w9.alloc (.cells #[] 39)).ownsRow w.heap.size 39 1 (.slice (some ⟨w9.heap.size, 0, none⟩) 0 0) 0 [] := World.ownsRow_lit (base := w.heap.size) w9 #[] 0 X9.size (by unfold maxLen; omega) rfl
              have HOWN0 := Lib.hid hown0
              clear hown0
              go_upto_region 18 with (at_builtin; refine wpList_append_mine _ (by rfl) (.tmp 98) (.tmp 99) 22 (by rfl) w.heap.size 39 j0 (.slice none 0 0) 1 24 Try.underlying22 hj hy0 hy1 hy2 rfl (by omega) _ 0 [] (by rfl) HOWN0.out ⟨b9, o9, none⟩ c cap us (by rfl) (by omega) (HAC.out _ (ext_alloc X9 _)) HONE.out (by unfold maxLen; omega) (by omega) (by have := (X9).size; simp; omega) ?_; intro v8 w8 ho8 hg8 hw8)
              rw [List.nil_append, Nat.zero_add] at ho8
              have x8 : Ext w9 w8 := Below.grown (ext_alloc (Below.refl _ _) _) hg8 (by simp) (fun g hg => by cases hg; exact Nat.le_refl _)
              obtain ⟨gc, cc, rfl, hgc1, hgc2⟩ := ho8.form (by omega)
              have HGC9 : w9.heap.size ≤ gc := by
                rcases hw8 with h | h
                · have h2 : gc = w9.heap.size := Option.some.inj h
                  omega
                · have h2 := h gc rfl
                  (try simp at h2)
                  omega
              have HO8 := Lib.hid ho8
              have X10 : Ext w w8 := X9.trans x8
              clear ho8 hg8 hw8 HOWN0
              go_wp2
              go_loopw [15, 16] (fun rv iv wr => ∃ (j : Nat) (ts : List Fc), j ≤ c ∧ iv = .int .i64 j ∧ OwnF 34 w8.heap.size w8.heap.size wr rv ts (uptoQ (fun j => M x j + M y j) j) ∧ Ext w8 wr) (fun _ iv _ => c - (intOf iv).toNat)
              case atStart => exact ⟨0, [], Nat.zero_le _, rfl, OwnF.nil_ _ _ _ _, Below.refl _ _⟩
              case round =>
                obtain ⟨j, ts, hj', rfl, hown, hy⟩ := hrel
                by_cases hjc : j < c
                · obtain ⟨bx, ox, n1, D1, p1, d1, D2, p2, d2, rfl, hbx, e0, e1, e2, hex⟩ := (HUS.out x _ HUX.out).at_ hjc
                  obtain ⟨by', oy, n2, E1, q1, f1, E2, q2, f2, rfl, hby, e3, e4, e5, hey⟩ := (HUS.out y _ HUY.out).at_ hjc
                  have hcx := HAC.out w (Below.refl _ _) x _ HUX.out
                  have hcy := HAC.out w (Below.refl _ _) y _ HUY.out
                  have hadd : ∀ j, (⟨b9, o9, none⟩ : Addr).add j = ⟨b9, o9 + j, none⟩ := fun j => by
                    unfold Addr.add
                    by_cases hj : j = 0 <;> simp [hj]
                  rw [hadd] at hcx hcy
                  have hb9w : b9 < w.heap.size := World.block_lt_of_cell? _ _ hcx
                  have HU := Lib.hid (uptoQ_length (fun j => M x j + M y j) j)
                  have HOWN := Lib.hid hown
                  have hj1 : (0 : Int) ≤ (j : Int) := by omega
                  have hj2 : (j : Int) < (c : Int) := by omega
                  have XJ : Ext w wr := X10.trans hy
                  have HEX := Lib.hid (fun (w' : World) (h : Ext wr w') => (hex.below (XJ.trans h)).any (HFB.out x j hxc hjc) (Nat.le_refl 3) (by omega))
                  have HEY := Lib.hid (fun (w' : World) (h : Ext wr w') => (hey.below (XJ.trans h)).any (HFB.out y j hyc hjc) (Nat.le_refl 3) (by omega))
                  have HFX := Lib.hid (HFB.out x j hxc hjc)
                  have HFY := Lib.hid (HFB.out y j hyc hjc)
                  have HS := Lib.hid (fun (w' : World) (h : Ext wr w') => (⟨((XJ.trans h).cell (p := ⟨b9, o9 + x, none⟩) hb9w).trans hcx, ((XJ.trans h).cell (p := ⟨b9, o9 + y, none⟩) hb9w).trans hcy, ⟨((XJ.trans h).cell (p := ⟨bx, ox + j * 3, none⟩) hbx).trans e0, ((XJ.trans h).cell (p := ⟨bx, ox + j * 3 + 1, none⟩) hbx).trans e1, ((XJ.trans h).cell (p := ⟨bx, ox + j * 3 + 2, none⟩) hbx).trans e2⟩, ((XJ.trans h).cell (p := ⟨by', oy + j * 3, none⟩) hby).trans e3, ((XJ.trans h).cell (p := ⟨by', oy + j * 3 + 1, none⟩) hby).trans e4, ((XJ.trans h).cell (p := ⟨by', oy + j * 3 + 2, none⟩) hby).trans e5⟩ : w'.cell? ⟨b9, o9 + x, none⟩ = some (.slice (some ⟨bx, ox, none⟩) c cx) ∧ w'.cell? ⟨b9, o9 + y, none⟩ = some (.slice (some ⟨by', oy, none⟩) c cy) ∧ (w'.cell? ⟨bx, ox + j * 3, none⟩ = some (.bool n1) ∧ w'.cell? ⟨bx, ox + j * 3 + 1, none⟩ = some (.slice D1 p1 d1) ∧ w'.cell? ⟨bx, ox + j * 3 + 2, none⟩ = some (.slice D2 p2 d2)) ∧ w'.cell? ⟨by', oy + j * 3, none⟩ = some (.bool n2) ∧ w'.cell? ⟨by', oy + j * 3 + 1, none⟩ = some (.slice E1 q1 f1) ∧ w'.cell? ⟨by', oy + j * 3 + 2, none⟩ = some (.slice E2 q2 f2)))
                  clear hown hex hey e0 e1 e2 e3 e4 e5 hcx hcy hadd
                  go_upto_region 22 with (fail)
                  refine wp_region_G (fun w' => Ext wr w') [17, 18] (by kernel_rfl) ?_
                  have gS : Ext wr wr.drew := (Below.refl _ _).drew
                  refine wpAnyG_take 0 (v := ?_) rfl (by kernel_rfl) (by kernel_rfl) (by kernel_rfl) (by kernel_rfl) (by rfl) (by kernel_rfl) (fun _ _ _ h => h) (by rfl) (fun w' hw' => ?_) gS ?_
                  rotate_left
                  focus (go_simp; (try with_reducible rfl); done)
                  (try simp only [Act.put, List.getElem_toArray, List.getElem_cons_succ, List.getElem_cons_zero, List.setIfInBounds_toArray, List.set_cons_zero, List.set_cons_succ])
                  refine wpAnyG_take 1 (v := ?_) rfl (by kernel_rfl) (by kernel_rfl) (by kernel_rfl) (by kernel_rfl) (by rfl) (by kernel_rfl) (fun _ _ _ h => h) (by rfl) (fun w' hw' => ?_) gS ?_
                  rotate_left
                  focus (go_simp; (try with_reducible rfl); done)
                  (try simp only [Act.put, List.getElem_toArray, List.getElem_cons_succ, List.getElem_cons_zero, List.setIfInBounds_toArray, List.set_cons_zero, List.set_cons_succ])
                  refine wpAnyG_take 2 (v := ?_) rfl (by kernel_rfl) (by kernel_rfl) (by kernel_rfl) (by kernel_rfl) (by rfl) (by kernel_rfl) (fun _ _ _ h => h) (by rfl) (fun w' hw' => ?_) gS ?_
                  rotate_left
                  focus (go_simp; (try with_reducible rfl); done)
                  (try simp only [Act.put, List.getElem_toArray, List.getElem_cons_succ, List.getElem_cons_zero, List.setIfInBounds_toArray, List.set_cons_zero, List.set_cons_succ])
                  refine wpAnyG_take 3 (v := ?_) rfl (by kernel_rfl) (by kernel_rfl) (by kernel_rfl) (by kernel_rfl) (by rfl) (by kernel_rfl) (fun _ _ _ h => h) (by rfl) (fun w' hw' => ?_) gS ?_
                  rotate_left
                  focus (go_simp; (try with_reducible rfl); done)
                  (try simp only [Act.put, List.getElem_toArray, List.getElem_cons_succ, List.getElem_cons_zero, List.setIfInBounds_toArray, List.set_cons_zero, List.set_cons_succ])
                  refine wpAnyG_take 4 (v := ?_) rfl (by kernel_rfl) (by kernel_rfl) (by kernel_rfl) (by kernel_rfl) (by rfl) (by kernel_rfl) (fun _ _ _ h => h) (by rfl) (fun w' hw' => ?_) gS ?_
                  rotate_left
                  focus (have hh := HS.out _ hw'; go_split_ands; go_simp; (try with_reducible rfl); done)
                  (try simp only [Act.put, List.getElem_toArray, List.getElem_cons_succ, List.getElem_cons_zero, List.setIfInBounds_toArray, List.set_cons_zero, List.set_cons_succ])
                  refine wpAnyG_take 5 (v := ?_) rfl (by kernel_rfl) (by kernel_rfl) (by kernel_rfl) (by kernel_rfl) (by rfl) (by kernel_rfl) (fun _ _ _ h => h) (by rfl) (fun w' hw' => ?_) gS ?_
                  rotate_left
                  focus (go_simp; (try with_reducible rfl); done)
                  (try simp only [Act.put, List.getElem_toArray, List.getElem_cons_succ, List.getElem_cons_zero, List.setIfInBounds_toArray, List.set_cons_zero, List.set_cons_succ])
                  refine wpAnyG_take 6 (v := ?_) rfl (by kernel_rfl) (by kernel_rfl) (by kernel_rfl) (by kernel_rfl) (by rfl) (by kernel_rfl) (fun _ _ _ h => h) (by rfl) (fun w' hw' => ?_) gS ?_
                  rotate_left
                  focus (go_simp; (try with_reducible rfl); done)
                  (try simp only [Act.put, List.getElem_toArray, List.getElem_cons_succ, List.getElem_cons_zero, List.setIfInBounds_toArray, List.set_cons_zero, List.set_cons_succ])
                  refine wpAnyG_take 7 (v := ?_) rfl (by kernel_rfl) (by kernel_rfl) (by kernel_rfl) (by kernel_rfl) (by rfl) (by kernel_rfl) (fun _ _ _ h => h) (by rfl) (fun w' hw' => ?_) gS ?_
                  rotate_left
                  focus (have hh := HS.out _ hw'; go_split_ands; go_simp; (try with_reducible rfl); done)
                  (try simp only [Act.put, List.getElem_toArray, List.getElem_cons_succ, List.getElem_cons_zero, List.setIfInBounds_toArray, List.set_cons_zero, List.set_cons_succ])
                  refine wpAnyG_take 8 (v := ?_) rfl (by kernel_rfl) (by kernel_rfl) (by kernel_rfl) (by kernel_rfl) (by rfl) (by kernel_rfl) (fun _ _ _ h => h) (by rfl) (fun w' hw' => ?_) gS ?_
                  rotate_left
                  focus (go_simp; (try with_reducible rfl); done)
                  (try simp only [Act.put, List.getElem_toArray, List.getElem_cons_succ, List.getElem_cons_zero, List.setIfInBounds_toArray, List.set_cons_zero, List.set_cons_succ])
                  refine wpAnyG_take 9 (v := ?_) rfl (by kernel_rfl) (by kernel_rfl) (by kernel_rfl) (by kernel_rfl) (by rfl) (by kernel_rfl) (fun _ _ _ h => h) (by rfl) (fun w' hw' => ?_) gS ?_
                  rotate_left
                  focus (go_simp; (try with_reducible rfl); done)
                  (try simp only [Act.put, List.getElem_toArray, List.getElem_cons_succ, List.getElem_cons_zero, List.setIfInBounds_toArray, List.set_cons_zero, List.set_cons_succ])
                  refine wpAnyG_take 10 (v := ?_) rfl (by kernel_rfl) (by kernel_rfl) (by kernel_rfl) (by kernel_rfl) (by rfl) (by kernel_rfl) (fun _ _ _ h => h) (by rfl) (fun w' hw' => ?_) gS ?_
                  rotate_left
                  focus (go_simp; (try with_reducible rfl); done)
                  (try simp only [Act.put, List.getElem_toArray, List.getElem_cons_succ, List.getElem_cons_zero, List.setIfInBounds_toArray, List.set_cons_zero, List.set_cons_succ])
                  refine wpAnyG_take 11 (v := ?_) rfl (by kernel_rfl) (by kernel_rfl) (by kernel_rfl) (by kernel_rfl) (by rfl) (by kernel_rfl) (fun _ _ _ h => h) (by rfl) (fun w' hw' => ?_) gS ?_
                  rotate_left
                  focus (have hh := HS.out _ hw'; go_split_ands; go_simp; (try with_reducible rfl); done)
                  (try simp only [Act.put, List.getElem_toArray, List.getElem_cons_succ, List.getElem_cons_zero, List.setIfInBounds_toArray, List.set_cons_zero, List.set_cons_succ])
                  refine wpAnyG_take 12 (v := ?_) rfl (by kernel_rfl) (by kernel_rfl) (by kernel_rfl) (by kernel_rfl) (by rfl) (by kernel_rfl) (fun _ _ _ h => h) (by rfl) (fun w' hw' => ?_) gS ?_
                  rotate_left
                  focus (go_simp; (try with_reducible rfl); done)
                  (try simp only [Act.put, List.getElem_toArray, List.getElem_cons_succ, List.getElem_cons_zero, List.setIfInBounds_toArray, List.set_cons_zero, List.set_cons_succ])
                  refine wpAnyG_take 13 (v := ?_) rfl (by kernel_rfl) (by kernel_rfl) (by kernel_rfl) (by kernel_rfl) (by rfl) (by kernel_rfl) (fun _ _ _ h => h) (by rfl) (fun w' hw' => ?_) gS ?_
                  rotate_left
                  focus (go_simp; (try with_reducible rfl); done)
                  (try simp only [Act.put, List.getElem_toArray, List.getElem_cons_succ, List.getElem_cons_zero, List.setIfInBounds_toArray, List.set_cons_zero, List.set_cons_succ])
                  refine wpAnyG_take 14 (v := ?_) rfl (by kernel_rfl) (by kernel_rfl) (by kernel_rfl) (by kernel_rfl) (by rfl) (by kernel_rfl) (fun _ _ _ h => h) (by rfl) (fun w' hw' => ?_) gS ?_
                  rotate_left
                  focus (have hh := HS.out _ hw'; go_split_ands; go_simp; (try with_reducible rfl); done)
                  (try simp only [Act.put, List.getElem_toArray, List.getElem_cons_succ, List.getElem_cons_zero, List.setIfInBounds_toArray, List.set_cons_zero, List.set_cons_succ])
                  refine wpAnyG_one 15 (by kernel_rfl) rfl (by rfl) (fun K hK => ?_)
                  (try simp only [List.getElem_toArray, List.getElem_cons_succ, List.getElem_cons_zero])
                  go_simp
                  go_at_call 34
                  refine (radd_f (HEX.out _ gS) (HEY.out _ gS) HFX.out HFY.out (by omega)).mono ?_
                  rintro _ w7 ⟨b7, A7, k7, c7, B7, l7, d7, rfl, h7, x7, n7, m7⟩
                  have hgs := gS.size
                  have gS : Ext wr w7 := Ext.trans gS x7
                  have e7 := gS
                  (try go_wp2_with fail)
                  refine hK.out _ _ (fun _ => gS) ?_
                  clear hK K
                  (try simp only [Act.put, List.getElem_toArray, List.getElem_cons_succ, List.getElem_cons_zero, List.setIfInBounds_toArray, List.set_cons_zero, List.set_cons_succ])
                  refine wpAnyG_one 16 (by kernel_rfl) rfl (by rfl) (fun K hK => ?_)
                  (try simp only [List.getElem_toArray, List.getElem_cons_succ, List.getElem_cons_zero])
                  go_simp
                  have gS : Ext wr (w7.alloc (.cells #[.bool b7, .slice A7 k7 c7, .slice B7 l7 d7] 34)) := ext_alloc gS _
                  (try go_wp2_with fail)
                  refine hK.out _ _ (fun _ => gS) ?_
                  clear hK K
                  (try simp only [Act.put, List.getElem_toArray, List.getElem_cons_succ, List.getElem_cons_zero, List.setIfInBounds_toArray, List.set_cons_zero, List.set_cons_succ])
                  refine wpAnyG_one 17 (by kernel_rfl) rfl (by rfl) (fun K hK => ?_)
                  (try simp only [List.getElem_toArray, List.getElem_cons_succ, List.getElem_cons_zero])
                  refine wp_append_mine _ (.tmp 107) (.tmp 123) 39 (by rfl) w8.heap.size 34 if0 (.agg #[.bool false, .slice none 0 0, .slice none 0 0]) 3 56 Try.underlying39 hif hz0 hz1 hz2 rfl (by omega) _ _ _ (by rfl) (HOWN.out.ext (ext_alloc e7 _)).1.1 ⟨w7.heap.size, 0, none⟩ 1 1 [.bool b7, .slice A7 k7 c7, .slice B7 l7 d7] (by rfl) rfl (cell_three w7 _ _ _ _) (by simp [Value.oneCell']) (by rw [HU.out]; unfold maxLen; omega) (by rw [HU.out]; omega) (by have := hy.size; have := e7.size; simp; omega) ?_
                  intro v11 w11 ho11 hg11 hw11
                  have hO11 : OwnF 34 w8.heap.size w8.heap.size w11 v11 (ts ++ [⟨b7, .slice A7 k7 c7, .slice B7 l7 d7⟩]) (uptoQ (fun j => M x j + M y j) (j + 1)) := by
                    rw [uptoQ_succ]; exact OwnF.grow (t := ⟨b7, .slice A7 k7 c7, .slice B7 l7 d7⟩) HOWN.out (ext_alloc e7 _) (h7.below (ext_alloc (Below.refl _ _) _)) (n7.mono hgs) (m7.mono hgs) hy.size ho11 hg11 hw11
                  have hx11 : Ext w8 w11 := OwnF.grow_ext HOWN.out hy (ext_alloc e7 _) hg11
                  clear ho11 hg11 hw11 HOWN h7 x7 n7 m7
                  refine hK.out _ _ (fun h => absurd h (by decide)) ?_
                  clear hK K
                  (try simp only [Act.put, List.getElem_toArray, List.getElem_cons_succ, List.getElem_cons_zero, List.setIfInBounds_toArray, List.set_cons_zero, List.set_cons_succ])
                  refine wpAnyG_one 18 (by kernel_rfl) rfl (by rfl) (fun K hK => ?_)
                  (try simp only [List.getElem_toArray, List.getElem_cons_succ, List.getElem_cons_zero])
                  go_simp
                  refine hK.out _ _ (fun h => absurd h (by decide)) ?_
                  clear hK K
                  (try simp only [Act.put, List.getElem_toArray, List.getElem_cons_succ, List.getElem_cons_zero, List.setIfInBounds_toArray, List.set_cons_zero, List.set_cons_succ])
                  refine wpAnyG_done (by kernel_rfl) ?_ _
                  go_wp2
                  go_roundw
                  case rel => exact ⟨j + 1, _, by omega, by go_num, hO11, hx11⟩
                  case measure => simp [intOf]; omega
                · obtain rfl : c = j := by omega
                  have hjj : ¬ ((c : Int) < (c : Int)) := by omega
                  obtain ⟨AS, cS, rfl, _, _⟩ := hown.fracs.form
                  rw [uptoQ_length] at hown ⊢
                  have HSUM := Lib.hid hown
                  have HO9 := Lib.hid (HO8.out.kept (Ext.grown hy) (by simp [Value.ownBlock]))
                  have hcg := HO9.out.cellAt x (by omega)
                  have hfg := HO9.out.frozenAt x
                  rw [HUX.out] at hcg
                  clear hown
                  go_upto_region 24 with (fail)
                  have X12 : Ext w (wr.setCell ⟨gc, x, none⟩ (.slice AS c cS)) := ext_set (X10.trans hy) hgc1 _
                  have x12 : Ext w9 (wr.setCell ⟨gc, x, none⟩ (.slice AS c cS)) := ext_set (x8.trans hy) HGC9 _
                  have hmc := outer_mat (World.ownsRow.stored HO9.out x (.slice AS c cS)).1 (set_rows (fun k u hu => (HUS.out k u hu).below X12) (sum_kept HSUM.out (setCell_grown wr gc x (.slice AS c cS)) hgc2).weak)
                  generalize wr.setCell ⟨gc, x, none⟩ (.slice AS c cS) = W12 at *
                  have HMC := Lib.hid (fun (w' : World) (h : Ext W12 w') => hmc.below h)
                  have HDB := Lib.hid (show Calls Try.prog 17 #[.slice (some ⟨gb, 0, none⟩) c cb] W12 (GivesFE W12 (-D)) from by
                    have h1 := mdet_ok (HMB.out.below x12) (Nat.le_refl 3) (by omega) (fbm_swp HFB.out hxc hyc) (by omega)
                    rwa [det_swp hxc hyc HNE.out, ← HDD.out] at h1)
                  have HDC := Lib.hid (fun (w' : World) (h : Ext W12 w') => show Calls Try.prog 17 #[.slice (some ⟨gc, 0, none⟩) c cc] w' (GivesFE w' D) from by
                    have h0 : (fun j => M x j + M y j) = fun j => M x j + 1 * M y j := by funext j; rw [Rat.one_mul]
                    have h1 := mdet_ok (HMC.out w' h) (L := 7) (by omega) (by omega) (fun i j hi hj => by
                      rw [setr_at]
                      split
                      · exact (FB.add (HFB.out x j hxc hj) (HFB.out y j hyc hj) (by omega)).mono (by omega)
                      · exact (HFB.out i j hi hj).mono (by omega)) (by omega)
                    rwa [h0, det_add 1 hxc hyc HNE.out, ← HDD.out] at h1)
                  clear hmc HSUM HO9 HO8 hcg hfg
                  go_upto_region 26 with (first
                    | (go_at_call 17; (with_reducible refine HDB.out.mono ?_); rintro e w13 ⟨b13, A13, k13, c13, B13, l13, d13, rfl, h13, x13, _, _⟩)
                    | (go_at_call 17; (with_reducible refine (HDC.out _ (ext_alloc x13 _)).mono ?_); rintro e w14 ⟨b14, A14, k14, c14, B14, l14, d14, rfl, h14, x14, _, _⟩))
                  have hB13 := FBox.new w13 (.bool b13) (.slice A13 k13 c13) (.slice B13 l13 d13) 34
                  have y13 : Ext w13 (w13.alloc (.cells #[.bool b13, .slice A13 k13 c13, .slice B13 l13 d13] 34)) := ext_alloc (Below.refl _ _) _
                  have hB14 := FBox.new w14 (.bool b14) (.slice A14 k14 c14) (.slice B14 l14 d14) 34
                  have y14 : Ext w14 (w14.alloc (.cells #[.bool b14, .slice A14 k14 c14, .slice B14 l14 d14] 34)) := ext_alloc (Below.refl _ _) _
                  obtain ⟨G13, hG13⟩ : ∃ G, G = w13.heap.size := ⟨_, rfl⟩
                  obtain ⟨G14, hG14⟩ : ∃ G, G = w14.heap.size := ⟨_, rfl⟩
                  rw [← hG13] at hB13 ⊢
                  rw [← hG14] at hB14 ⊢
                  generalize w13.alloc (.cells #[.bool b13, .slice A13 k13 c13, .slice B13 l13 d13] 34) = W13 at *
                  generalize w14.alloc (.cells #[.bool b14, .slice A14 k14 c14, .slice B14 l14 d14] 34) = W14 at *
                  have X14 : Ext w W14 := (X12.trans (x13.trans y13)).trans (x14.trans y14)
                  have Y14 : Ext W3 W14 := (Y9.trans x12).trans ((x13.trans y13).trans (x14.trans y14))
                  have HS := Lib.hid (fun (w' : World) (h : Ext W14 w') => (⟨⟨(hB13.below ((x14.trans y14).trans h)).1, (hB13.below ((x14.trans y14).trans h)).2.1, (hB13.below ((x14.trans y14).trans h)).2.2.1⟩, ⟨(hB14.below h).1, (hB14.below h).2.1, (hB14.below h).2.2.1⟩, (HBD.out w' (Y14.trans h)).1, (HBD.out w' (Y14.trans h)).2.1, (HBD.out w' (Y14.trans h)).2.2.1⟩ : (w'.cell? ⟨G13, 0, none⟩ = some (.bool b13) ∧ w'.cell? ⟨G13, 1, none⟩ = some (.slice A13 k13 c13) ∧ w'.cell? ⟨G13, 2, none⟩ = some (.slice B13 l13 d13)) ∧ (w'.cell? ⟨G14, 0, none⟩ = some (.bool b14) ∧ w'.cell? ⟨G14, 1, none⟩ = some (.slice A14 k14 c14) ∧ w'.cell? ⟨G14, 2, none⟩ = some (.slice B14 l14 d14)) ∧ w'.cell? ⟨BD, 0, none⟩ = some (.bool b3) ∧ w'.cell? ⟨BD, 1, none⟩ = some (.slice A3 k3 c3) ∧ w'.cell? ⟨BD, 2, none⟩ = some (.slice B3 l3 d3)))
                  have HF13 := Lib.hid (fun (w' : World) (h : Ext W14 w') => h13.below (y13.trans ((x14.trans y14).trans h)))
                  have HF14 := Lib.hid (fun (w' : World) (h : Ext W14 w') => h14.below (y14.trans h))
                  have HDW := Lib.hid (fun (w' : World) (h : Ext W14 w') => HDV.out w' (Y14.trans h))
                  clear hB13 hB14 h13 h14 x13 x14 y13 y14 hG13 hG14
                  refine wp_region_G (fun w' => Ext W14 w') [17] (by kernel_rfl) ?_
                  have gS : Ext W14 W14.drew := (Below.refl _ _).drew
                  refine wpAnyG_take 0 (v := ?_) rfl (by kernel_rfl) (by kernel_rfl) (by kernel_rfl) (by kernel_rfl) (by rfl) (by kernel_rfl) (fun _ _ _ h => h) (by rfl) (fun w' hw' => ?_) gS ?_
                  rotate_left
                  focus (go_simp; (try with_reducible rfl); done)
                  (try simp only [Act.put, List.getElem_toArray, List.getElem_cons_succ, List.getElem_cons_zero, List.setIfInBounds_toArray, List.set_cons_zero, List.set_cons_succ])
                  refine wpAnyG_take 1 (v := ?_) rfl (by kernel_rfl) (by kernel_rfl) (by kernel_rfl) (by kernel_rfl) (by rfl) (by kernel_rfl) (fun _ _ _ h => h) (by rfl) (fun w' hw' => ?_) gS ?_
                  rotate_left
                  focus (go_simp; (try with_reducible rfl); done)
                  (try simp only [Act.put, List.getElem_toArray, List.getElem_cons_succ, List.getElem_cons_zero, List.setIfInBounds_toArray, List.set_cons_zero, List.set_cons_succ])
                  refine wpAnyG_take 2 (v := ?_) rfl (by kernel_rfl) (by kernel_rfl) (by kernel_rfl) (by kernel_rfl) (by rfl) (by kernel_rfl) (fun _ _ _ h => h) (by rfl) (fun w' hw' => ?_) gS ?_
                  rotate_left
                  focus (go_simp; (try with_reducible rfl); done)
                  (try simp only [Act.put, List.getElem_toArray, List.getElem_cons_succ, List.getElem_cons_zero, List.setIfInBounds_toArray, List.set_cons_zero, List.set_cons_succ])
                  refine wpAnyG_take 3 (v := ?_) rfl (by kernel_rfl) (by kernel_rfl) (by kernel_rfl) (by kernel_rfl) (by rfl) (by kernel_rfl) (fun _ _ _ h => h) (by rfl) (fun w' hw' => ?_) gS ?_
                  rotate_left
                  focus (go_simp; (try with_reducible rfl); done)
                  (try simp only [Act.put, List.getElem_toArray, List.getElem_cons_succ, List.getElem_cons_zero, List.setIfInBounds_toArray, List.set_cons_zero, List.set_cons_succ])
                  refine wpAnyG_take 4 (v := ?_) rfl (by kernel_rfl) (by kernel_rfl) (by kernel_rfl) (by kernel_rfl) (by rfl) (by kernel_rfl) (fun _ _ _ h => h) (by rfl) (fun w' hw' => ?_) gS ?_
                  rotate_left
                  focus (go_simp; (try with_reducible rfl); done)
                  (try simp only [Act.put, List.getElem_toArray, List.getElem_cons_succ, List.getElem_cons_zero, List.setIfInBounds_toArray, List.set_cons_zero, List.set_cons_succ])
                  refine wpAnyG_take 5 (v := ?_) rfl (by kernel_rfl) (by kernel_rfl) (by kernel_rfl) (by kernel_rfl) (by rfl) (by kernel_rfl) (fun _ _ _ h => h) (by rfl) (fun w' hw' => ?_) gS ?_
                  rotate_left
                  focus (go_simp; (try with_reducible rfl); done)
                  (try simp only [Act.put, List.getElem_toArray, List.getElem_cons_succ, List.getElem_cons_zero, List.setIfInBounds_toArray, List.set_cons_zero, List.set_cons_succ])
                  refine wpAnyG_take 6 (v := ?_) rfl (by kernel_rfl) (by kernel_rfl) (by kernel_rfl) (by kernel_rfl) (by rfl) (by kernel_rfl) (fun _ _ _ h => h) (by rfl) (fun w' hw' => ?_) gS ?_
                  rotate_left
                  focus (go_simp; (try with_reducible rfl); done)
                  (try simp only [Act.put, List.getElem_toArray, List.getElem_cons_succ, List.getElem_cons_zero, List.setIfInBounds_toArray, List.set_cons_zero, List.set_cons_succ])
                  refine wpAnyG_take 7 (v := ?_) rfl (by kernel_rfl) (by kernel_rfl) (by kernel_rfl) (by kernel_rfl) (by rfl) (by kernel_rfl) (fun _ _ _ h => h) (by rfl) (fun w' hw' => ?_) gS ?_
                  rotate_left
                  focus (have hh := HS.out _ hw'; go_split_ands; go_simp; (try with_reducible rfl); done)
                  (try simp only [Act.put, List.getElem_toArray, List.getElem_cons_succ, List.getElem_cons_zero, List.setIfInBounds_toArray, List.set_cons_zero, List.set_cons_succ])
                  refine wpAnyG_take 8 (v := ?_) rfl (by kernel_rfl) (by kernel_rfl) (by kernel_rfl) (by kernel_rfl) (by rfl) (by kernel_rfl) (fun _ _ _ h => h) (by rfl) (fun w' hw' => ?_) gS ?_
                  rotate_left
                  focus (have hh := HS.out _ hw'; go_split_ands; go_simp; (try with_reducible rfl); done)
                  (try simp only [Act.put, List.getElem_toArray, List.getElem_cons_succ, List.getElem_cons_zero, List.setIfInBounds_toArray, List.set_cons_zero, List.set_cons_succ])
                  refine wpAnyG_one 9 (by kernel_rfl) rfl (by rfl) (fun K hK => ?_)
                  (try simp only [List.getElem_toArray, List.getElem_cons_succ, List.getElem_cons_zero])
                  go_simp
                  go_at_call 35
                  refine (rneg_f (FracV.any (HDW.out _ gS) HDF.out (by omega)) (by omega)).mono ?_
                  rintro _ s7 ⟨b7, A7, k7, c7, B7, l7, d7, rfl, h7, x7, _, _⟩
                  have gS : Ext W14 s7 := Ext.trans gS x7
                  (try go_wp2_with fail)
                  refine hK.out _ _ (fun _ => gS) ?_
                  clear hK K
                  (try simp only [Act.put, List.getElem_toArray, List.getElem_cons_succ, List.getElem_cons_zero, List.setIfInBounds_toArray, List.set_cons_zero, List.set_cons_succ])
                  refine wpAnyG_one 10 (by kernel_rfl) rfl (by rfl) (fun K hK => ?_)
                  (try simp only [List.getElem_toArray, List.getElem_cons_succ, List.getElem_cons_zero])
                  go_simp
                  go_at_call 20
                  refine (bfrac_same (HF13.out _ gS) h7).mono ?_
                  rintro _ s8 ⟨rfl, x8'⟩
                  have gS : Ext W14 s8 := Ext.trans gS x8'
                  (try go_wp2_with fail)
                  refine hK.out _ _ (fun _ => gS) ?_
                  clear hK K
                  (try simp only [Act.put, List.getElem_toArray, List.getElem_cons_succ, List.getElem_cons_zero, List.setIfInBounds_toArray, List.set_cons_zero, List.set_cons_succ])
                  refine wpAnyG_take 11 (v := ?_) rfl (by kernel_rfl) (by kernel_rfl) (by kernel_rfl) (by kernel_rfl) (by rfl) (by kernel_rfl) (fun _ _ _ h => h) (by rfl) (fun w' hw' => ?_) gS ?_
                  rotate_left
                  focus (go_simp; (try with_reducible rfl); done)
                  (try simp only [Act.put, List.getElem_toArray, List.getElem_cons_succ, List.getElem_cons_zero, List.setIfInBounds_toArray, List.set_cons_zero, List.set_cons_succ])
                  refine wpAnyG_take 12 (v := ?_) rfl (by kernel_rfl) (by kernel_rfl) (by kernel_rfl) (by kernel_rfl) (by rfl) (by kernel_rfl) (fun _ _ _ h => h) (by rfl) (fun w' hw' => ?_) gS ?_
                  rotate_left
                  focus (go_simp; (try with_reducible rfl); done)
                  (try simp only [Act.put, List.getElem_toArray, List.getElem_cons_succ, List.getElem_cons_zero, List.setIfInBounds_toArray, List.set_cons_zero, List.set_cons_succ])
                  refine wpAnyG_take 13 (v := ?_) rfl (by kernel_rfl) (by kernel_rfl) (by kernel_rfl) (by kernel_rfl) (by rfl) (by kernel_rfl) (fun _ _ _ h => h) (by rfl) (fun w' hw' => ?_) gS ?_
                  rotate_left
                  focus (have hh := HS.out _ hw'; go_split_ands; go_simp; (try with_reducible rfl); done)
                  (try simp only [Act.put, List.getElem_toArray, List.getElem_cons_succ, List.getElem_cons_zero, List.setIfInBounds_toArray, List.set_cons_zero, List.set_cons_succ])
                  refine wpAnyG_take 14 (v := ?_) rfl (by kernel_rfl) (by kernel_rfl) (by kernel_rfl) (by kernel_rfl) (by rfl) (by kernel_rfl) (fun _ _ _ h => h) (by rfl) (fun w' hw' => ?_) gS ?_
                  rotate_left
                  focus (have hh := HS.out _ hw'; go_split_ands; go_simp; (try with_reducible rfl); done)
                  (try simp only [Act.put, List.getElem_toArray, List.getElem_cons_succ, List.getElem_cons_zero, List.setIfInBounds_toArray, List.set_cons_zero, List.set_cons_succ])
                  refine wpAnyG_one 15 (by kernel_rfl) rfl (by rfl) (fun K hK => ?_)
                  (try simp only [List.getElem_toArray, List.getElem_cons_succ, List.getElem_cons_zero])
                  go_simp
                  go_at_call 20
                  refine (bfrac_same (HF14.out _ gS) (HDW.out _ gS)).mono ?_
                  rintro _ s9 ⟨rfl, x9'⟩
                  have gS : Ext W14 s9 := Ext.trans gS x9'
                  have gR := gS
                  (try go_wp2_with fail)
                  refine hK.out _ _ (fun _ => gS) ?_
                  clear hK K
                  (try simp only [Act.put, List.getElem_toArray, List.getElem_cons_succ, List.getElem_cons_zero, List.setIfInBounds_toArray, List.set_cons_zero, List.set_cons_succ])
                  refine wpAnyG_take 16 (v := ?_) rfl (by kernel_rfl) (by kernel_rfl) (by kernel_rfl) (by kernel_rfl) (by rfl) (by kernel_rfl) (fun _ _ _ h => h) (by rfl) (fun w' hw' => ?_) gS ?_
                  rotate_left
                  focus (go_simp; (try with_reducible rfl); done)
                  (try simp only [Act.put, List.getElem_toArray, List.getElem_cons_succ, List.getElem_cons_zero, List.setIfInBounds_toArray, List.set_cons_zero, List.set_cons_succ])
                  refine wpAnyG_one 17 (by kernel_rfl) rfl (by rfl) (fun K hK => ?_)
                  (try simp only [List.getElem_toArray, List.getElem_cons_succ, List.getElem_cons_zero])
                  go_simp
                  refine hK.out _ _ (fun h => absurd h (by decide)) ?_
                  clear hK K
                  (try simp only [Act.put, List.getElem_toArray, List.getElem_cons_succ, List.getElem_cons_zero, List.setIfInBounds_toArray, List.set_cons_zero, List.set_cons_succ])
                  refine wpAnyG_done (by kernel_rfl) ?_ _
                  go_wp2
                  go_ret
                  exact ⟨rfl, X14.trans gR⟩
      · have HDN := Lib.hid (fun (w' : World) (h : Ext w w') => mdet_no (HLN.out w' h) (by
          by_cases h1 : validL (lensOf n len)
          · exact .inr fun h2 => hsq ⟨h1, by rw [h2, lensOf_length]⟩
          · exact .inl h1))
        by_cases hvl : validL (lensOf n len)
        · obtain ⟨hn4, c, hc4, hz, hl, hs, hhd⟩ := few_valid hf hvl
          rw [decide_eq_true hvl] at HVL
          have hcn : ((n : Int) != (c : Int)) = true := by rw [bne_iff_ne]; exact fun h => hsq ⟨hvl, by rw [hhd]; omega⟩
          have hcn' : ¬ (n = c) := fun h => hsq ⟨hvl, by rw [hhd]; omega⟩
          have HE := Lib.hid (fun (w' : World) (h : Ext w w') => ((HV.out w' h).emat hl hs).1)
          clear hf hsq hvl hl hs hz hhd
          have h00 : (0 : Int) < (n : Int) := by omega
          go_enter Try.func8, Try.ntmps8
          go_upto_region 5 with (first
                  | (go_at_call 12; (with_reducible refine (HFW.out _ x1).mono ?_); rintro e w2 hgb; obtain ⟨rfl, x2⟩ := hgb.t HF.out)
                  | (go_at_call 17; (with_reducible refine (HDN.out _ (x1.trans x2)).mono ?_); rintro e w3 ⟨rfl, x3⟩)
                  | (go_at_call 22; (with_reducible refine (HVL.out _ ((x1.trans x2).trans (ext_alloc x3 _))).mono ?_); rintro e w4 ⟨rfl, x4⟩; obtain ⟨b9, o9, A9, cp9, rfl, hb9, hc9, _⟩ := (HE.out _ (((x1.trans x2).trans (ext_alloc x3 _)).trans x4)).at_ (k := 0) (by omega); rw [Nat.add_zero] at hc9)
                  | (go_at_call 11; (with_reducible refine awake_t.mono ?_); rintro e w1 ⟨rfl, x1⟩))
          go_wp2
          go_ret
          exact ⟨rfl, ((x1.trans x2).trans (ext_alloc x3 _)).trans x4⟩
        · rw [decide_eq_false hvl] at HVL
          clear hf hsq hvl
          go_enter Try.func8, Try.ntmps8
          go_wp2_with (first
                  | (go_at_call 12; (with_reducible refine (HFW.out _ x1).mono ?_); rintro e w2 hgb; obtain ⟨rfl, x2⟩ := hgb.t HF.out)
                  | (go_at_call 17; (with_reducible refine (HDN.out _ (x1.trans x2)).mono ?_); rintro e w3 ⟨rfl, x3⟩)
                  | (go_at_call 22; (with_reducible refine (HVL.out _ ((x1.trans x2).trans (ext_alloc x3 _))).mono ?_); rintro e w4 ⟨rfl, x4⟩)
                  | (go_at_call 11; (with_reducible refine awake_t.mono ?_); rintro e w1 ⟨rfl, x1⟩))
          go_ret
          exact ⟨rfl, ((x1.trans x2).trans (ext_alloc x3 _)).trans x4⟩
  · have HF := Lib.hid hf
    clear hf
    go_enter Try.func8, Try.ntmps8
    go_wp2_with (first
            | (go_at_call 12; (with_reducible refine (HFW.out _ x1).mono ?_); rintro e w2 hgb; obtain ⟨rfl, x2⟩ := hgb.f HF.out)
            | (go_at_call 11; (with_reducible refine awake_t.mono ?_); rintro e w4 ⟨rfl, x4⟩; have y4 := (x2).trans x4)
            | (go_at_call 11; (with_reducible refine awake_t.mono ?_); rintro e w1 ⟨rfl, x1⟩))
    go_ret
    exact ⟨rfl, x1.trans y4⟩

end Go.Proofs.Ytmfigiifflljpaa
