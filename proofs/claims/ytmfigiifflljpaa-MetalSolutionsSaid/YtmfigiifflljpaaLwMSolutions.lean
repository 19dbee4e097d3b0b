/- law: MetalSolutions. -/
import Derived.Test.YtmfigiifflljpaaMetV
import Derived.Test.YtmfigiifflljpaaMetJ
import Derived.Test.YtmfigiifflljpaaMetH
set_option linter.unusedVariables false
set_option linter.unusedSimpArgs false
set_option maxRecDepth 100000
namespace Go.Proofs.Ytmfigiifflljpaa
open Go.RowKit Num

theorem cmp_self {q : Rat} : cmpQ q q = 0 := by
  rw [cmpQ_sub, show q - q = 0 by grind]
  rfl
/-- Either there is an error, or the solution satisfies the system. -/
theorem sol_cases {A : Mx} {b : Nat → Rat} {n N : Nat} : solE (rrefs (wide A b N) n (N + 1)) N ≠ 0 ∨ (solE (rrefs (wide A b N) n (N + 1)) N = 0 ∧ solN (rrefs (wide A b N) n (N + 1)) N = N ∧ N ≤ n ∧ ∀ i, i < n → dotR (A i) (fun j => (rrefs (wide A b N) n (N + 1)).m j N) N = b i) := by
  by_cases h1 : N ∈ (rrefs (wide A b N) n (N + 1)).leads
  · left
    unfold solE
    rw [if_pos h1]
    decide
  · by_cases h2 : (rrefs (wide A b N) n (N + 1)).leads.length < N
    · left
      unfold solE
      rw [if_neg h1, if_pos h2]
      decide
    · right
      unfold solE solN
      rw [if_neg h1, if_neg h2, if_neg h1, if_neg h2]
      obtain ⟨a1, a2, a3⟩ := solved h1 h2
      exact ⟨rfl, rfl, a1, a2⟩
theorem solN_le {R : Rd} {N : Nat} : solN R N ≤ N := by
  unfold solN
  split
  · omega
  · split <;> omega
set_option maxHeartbeats 16000000 in
theorem law_MSolutions {v u : Value} {z : Nat × (Nat → Nat) × (Nat → Nat → FracIn)} {z2 : Nat × (Nat → FracIn)} {w : World} (hv : InMat w v z.1 z.2.1 z.2.2) (hu : InFs w u z2.1 z2.2) :
    Calls Try.prog 4 #[v, u] w (fun e w' => e = .returned (.bool true) ∧ Ext w w') := by
  obtain ⟨n, len, F⟩ := z
  simp only at hv
  have HV := Lib.hid (fun (w' : World) (h : Ext w w') => hv.below h)
  have HFW := Lib.hid (fun (w' : World) (h : Ext w w') => rfew_l (hv.below h))
  have HLN := Lib.hid (fun (w' : World) (h : Ext w w') => (hv.below h).lens)
  obtain ⟨m, G⟩ := z2
  simp only at hu
  have HU := Lib.hid (fun (w' : World) (h : Ext w w') => hu.below h)
  have HSW := Lib.hid (fun (w' : World) (h : Ext w w') => rsmall_l (hu.below h))
  obtain ⟨A, cap, rfl, hc1, hc2⟩ := hv.form
  obtain ⟨A', cap', rfl, hc3, hc4'⟩ := hu.form
  clear hv hu
  by_cases hf : fewM n len F
  · by_cases hs2 : smallF m G
    · have HX := Lib.hid (fun (w' : World) (h : Ext w w') => ((HU.out w' h).efs hs2.2).1)
      have hfx := ((HU.out w (Below.refl _ _)).efs hs2.2).2
      obtain ⟨g, hg⟩ : ∃ g : Nat → Rat, g = fun k => fxQ (G k) := ⟨_, rfl⟩
      have hgk : ∀ k, fxQ (G k) = g k := fun k => (congrFun hg k).symm
      rw [← hg] at HX
      simp only [hgk] at hfx
      have HF := Lib.hid hf
      have HSF := Lib.hid hs2
      by_cases hok : validL (lensOf n len) ∧ m = n
      · obtain ⟨hvl, hm⟩ := hok
        subst hm
        obtain ⟨hn4, c, hc4, hz, hl, hs, hhd⟩ := few_valid hf hvl
        have HE := Lib.hid (fun (w' : World) (h : Ext w w') => ((HV.out w' h).emat hl hs).1)
        have hfb := ((HV.out w (Below.refl _ _)).emat hl hs).2
        obtain ⟨M, hM⟩ : ∃ M : Mx, M = fun i j => fxQ (F i j) := ⟨_, rfl⟩
        rw [← hM] at HE hfb
        have HFB := Lib.hid hfb
        have HSP := Lib.hid (fun (w' : World) (h : Ext w w') => msolve_ok (HE.out w' h) (HX.out w' h) hfb hfx (Nat.le_refl 3) (by omega) (by omega) (by omega) hz)
        have HSR := Lib.hid (fun (w' : World) (h : Ext w w') => rsolve_ok (HE.out w' h) (HX.out w' h) hfb hfx (Nat.le_refl 3) (by omega) (by omega) (by omega) hz)
        have hcase := sol_cases (A := M) (b := g) (n := m) (N := c)
        have hFS : FBm (rrefs (wide M g c) m (c + 1)).m m (c + 1) 50421 := (fbm_rrefs (show FBm (wide M g c) m (c + 1) 3 from fun i j hi hj => by
          unfold wide
          split
          · exact hfb i j hi (by omega)
          · exact hfx i hi) (by omega) (c + 1) (Nat.le_refl _)).mono (by
          have : 7 ^ (c + 1) ≤ 7 ^ 5 := Nat.pow_le_pow_right (by decide) (by omega)
          omega)
        obtain ⟨R, hR⟩ : ∃ R, R = rrefs (wide M g c) m (c + 1) := ⟨_, rfl⟩
        rw [← hR] at HSP HSR hFS
        simp only [← hR] at hcase
        obtain ⟨sn, hsn⟩ : ∃ sn, sn = solN R c := ⟨_, rfl⟩
        obtain ⟨se, hse⟩ : ∃ se, se = solE R c := ⟨_, rfl⟩
        rw [← hsn, ← hse] at HSP HSR hcase
        obtain ⟨fs, hfs⟩ : ∃ fs : Nat → Rat, fs = fun j => R.m j c := ⟨_, rfl⟩
        rw [← hfs] at HSP HSR
        have hsnl : sn ≤ c := by rw [hsn]; exact solN_le
        have hss : (se != se) = false := by simp
        have hss2 : (se == se) = true := by simp
        rcases hcase with hne | ⟨h0, hN, hcn, hsat⟩
        · have hne1 : (se != 0) = true := by rw [bne_iff_ne]; exact hne
          have hne2 : ¬ (se = 0) := hne
          clear hf hs2 hvl hl hs hz hfb hfx hM hg hgk hhd hR hsn hse hfs hFS
          go_enter Try.func4, Try.ntmps4
          go_wp2_with (first
                  | (go_at_call 12; (with_reducible refine (HFW.out _ x1).mono ?_); rintro e w2 hgb; obtain ⟨rfl, x2⟩ := hgb.t HF.out)
                  | (go_at_call 23; (with_reducible refine (HSW.out _ (x1.trans x2)).mono ?_); rintro e w3 hgb; obtain ⟨rfl, x3⟩ := hgb.t HSF.out)
                  | (go_at_call 24; (with_reducible refine (HSP.out _ ((x1.trans x2).trans x3)).mono ?_); rintro e w4 ⟨A4, c4, rfl, h4, x4⟩)
                  | (go_at_call 25; (with_reducible refine (HSR.out _ (((x1.trans x2).trans x3).trans x4)).mono ?_); rintro e w5 ⟨A5, c5, rfl, h5, x5⟩)
                  | (go_at_call 26; (with_reducible refine (efracs_same (h4.below (x5.trans x6)) (h5.below x6) (fun _ _ => rfl)).mono ?_); rintro e w7 ⟨rfl, x7⟩; have y7 := x6.trans x7)
                  | (go_at_call 26; (with_reducible refine (efracs_same (h4.below x5) (h5) (fun _ _ => rfl)).mono ?_); rintro e w6 ⟨rfl, x6⟩)
                  | (go_at_call 11; (with_reducible refine awake_t.mono ?_); rintro e w1 ⟨rfl, x1⟩))
          go_ret
          exact ⟨by first | rfl | simp, ((x1.trans x2).trans x3).trans ((x4.trans x5).trans y7)⟩
        · subst h0
          subst hN
          have HSAT := Lib.hid hsat
          have HFS := Lib.hid (fun k (hk : k < sn) => show FB (fs k) 50421 from by rw [hfs]; exact hFS k sn (by omega) (by omega))
          have HTI := Lib.hid (fun (w' : World) (h : Ext w w') (y : Value) (hy : EFs true w' y sn fs) => (mtimes_ok (HE.out w' h) hy (hfb.mono (L' := 50421) (by omega)) (fun k hk => HFS.out k hk) (by omega) (by omega) (by omega) (by omega) hz).mono fun e w' h => h.congr (g := g) rfl rfl (fun k hk => by rw [hfs]; exact HSAT.out k hk))
          have HFX := Lib.hid hfx
          have hmm : ((m : Int) != (m : Int)) = false := by simp
          clear hf hs2 hvl hl hs hz hfb hfx hM hg hgk hhd hR hsn hse hfs hFS hsat
          go_enter Try.func4, Try.ntmps4
          go_upto_region 8 with (first
            | (go_at_call 12; (with_reducible refine (HFW.out _ x1).mono ?_); rintro e w2 hgb; obtain ⟨rfl, x2⟩ := hgb.t HF.out)
            | (go_at_call 23; (with_reducible refine (HSW.out _ (x1.trans x2)).mono ?_); rintro e w3 hgb; obtain ⟨rfl, x3⟩ := hgb.t HSF.out)
            | (go_at_call 24; (with_reducible refine (HSP.out _ ((x1.trans x2).trans x3)).mono ?_); rintro e w4 ⟨A4, c4, rfl, h4, x4⟩)
            | (go_at_call 25; (with_reducible refine (HSR.out _ (((x1.trans x2).trans x3).trans x4)).mono ?_); rintro e w5 ⟨A5, c5, rfl, h5, x5⟩)
            | (go_at_call 26; (with_reducible refine (efracs_same (h4.below x5) (h5) (fun _ _ => rfl)).mono ?_); rintro e w6 ⟨rfl, x6⟩)
            | (go_at_call 27; (with_reducible refine (HTI.out _ (((x1.trans x2).trans x3).trans ((x4.trans x5).trans x6)) _ (h4.below (x5.trans x6))).mono ?_); rintro e w8 ⟨A8, c8, rfl, h8, x8⟩)
            | (go_at_call 11; (with_reducible refine awake_t.mono ?_); rintro e w1 ⟨rfl, x1⟩))
          have X8 : Ext w w8 := ((x1.trans x2).trans x3).trans (((x4.trans x5).trans x6).trans x8)
          have HP := Lib.hid (fun (w' : World) (h : Ext w8 w') => h8.below h)
          clear h4 h5 h8 x1 x2 x3 x4 x5 x6 x8 hgb
          go_wp2
          go_loopw [11] (fun iv wr => ∃ k : Nat, k ≤ m ∧ iv = .int .i64 k ∧ Ext w8 wr) (fun iv _ => m - (intOf iv).toNat)
          case atStart => exact ⟨0, Nat.zero_le _, rfl, Below.refl _ _⟩
          case round =>
            obtain ⟨k, hk, rfl, hy⟩ := hrel
            by_cases hkm : k < m
            · obtain ⟨b, o, ng, D1, p1, d1, D2, p2, d2, rfl, hb, e0, e1, e2, he⟩ := (HP.out _ hy).at_ hkm
              obtain ⟨b', o', nh, E1, q1, f1, E2, q2, f2, rfl, hb', e3, e4, e5, he'⟩ := (HX.out _ (X8.trans hy)).at_ hkm
              have HEP := Lib.hid (FracV.any he.can (HFX.out k hkm) (by omega))
              have HEX := Lib.hid (he'.any (HFX.out k hkm) (Nat.le_refl 3) (by omega))
              have hi1 : (0 : Int) ≤ (k : Int) := by omega
              have hi2 : (k : Int) < (m : Int) := by omega
              have HS := Lib.hid (fun (w' : World) (h : Ext wr w') => (⟨⟨(h.cell (p := ⟨b, o + k * 3, none⟩) hb).trans e0, (h.cell (p := ⟨b, o + k * 3 + 1, none⟩) hb).trans e1, (h.cell (p := ⟨b, o + k * 3 + 2, none⟩) hb).trans e2⟩, (h.cell (p := ⟨b', o' + k * 3, none⟩) hb').trans e3, (h.cell (p := ⟨b', o' + k * 3 + 1, none⟩) hb').trans e4, (h.cell (p := ⟨b', o' + k * 3 + 2, none⟩) hb').trans e5⟩ : (w'.cell? ⟨b, o + k * 3, none⟩ = some (.bool ng) ∧ w'.cell? ⟨b, o + k * 3 + 1, none⟩ = some (.slice D1 p1 d1) ∧ w'.cell? ⟨b, o + k * 3 + 2, none⟩ = some (.slice D2 p2 d2)) ∧ w'.cell? ⟨b', o' + k * 3, none⟩ = some (.bool nh) ∧ w'.cell? ⟨b', o' + k * 3 + 1, none⟩ = some (.slice E1 q1 f1) ∧ w'.cell? ⟨b', o' + k * 3 + 2, none⟩ = some (.slice E2 q2 f2)))
              clear he he' e0 e1 e2 e3 e4 e5
              go_upto_region 13 with (fail)
              go_cut [88] (fun bv wx => bv = .bool false ∧ Ext wr wx)
              case first =>
                refine wp_region_G (fun w' => Ext wr w') [9] (by kernel_rfl) ?_
                have gS : Ext wr wr.drew := (Below.refl _ _).drew
                refine wpAnyG_take 0 (v := ?_) rfl (by kernel_rfl) (by kernel_rfl) (by kernel_rfl) (by kernel_rfl) (by rfl) (by kernel_rfl) (fun _ _ _ h => h) (by rfl) (fun w' hw' => ?_) gS ?_
                rotate_left
                focus (go_simp; (try with_reducible rfl); done)
                (try simp only [Act.put, List.getElem_toArray, List.getElem_cons_succ, List.getElem_cons_zero, List.setIfInBounds_toArray, List.set_cons_zero, List.set_cons_succ])
                refine wpAnyG_take 1 (v := ?_) rfl (by kernel_rfl) (by kernel_rfl) (by kernel_rfl) (by kernel_rfl) (by rfl) (by kernel_rfl) (fun _ _ _ h => h) (by rfl) (fun w' hw' => ?_) gS ?_
                rotate_left
                focus (go_simp; (try with_reducible rfl); done)
                (try simp only [Act.put, List.getElem_toArray, List.getElem_cons_succ, List.getElem_cons_zero, List.setIfInBounds_toArray, List.set_cons_zero, List.set_cons_succ])
                refine wpAnyG_take 2 (v := ?_) rfl (by kernel_rfl) (by kernel_rfl) (by kernel_rfl) (by kernel_rfl) (by rfl) (by kernel_rfl) (fun _ _ _ h => h) (by rfl) (fun w' hw' => ?_) gS ?_
                rotate_left
                focus (go_simp; (try with_reducible rfl); done)
                (try simp only [Act.put, List.getElem_toArray, List.getElem_cons_succ, List.getElem_cons_zero, List.setIfInBounds_toArray, List.set_cons_zero, List.set_cons_succ])
                refine wpAnyG_take 3 (v := ?_) rfl (by kernel_rfl) (by kernel_rfl) (by kernel_rfl) (by kernel_rfl) (by rfl) (by kernel_rfl) (fun _ _ _ h => h) (by rfl) (fun w' hw' => ?_) gS ?_
                rotate_left
                focus (have hh := HS.out _ hw'; go_split_ands; go_simp; (try with_reducible rfl); done)
                (try simp only [Act.put, List.getElem_toArray, List.getElem_cons_succ, List.getElem_cons_zero, List.setIfInBounds_toArray, List.set_cons_zero, List.set_cons_succ])
                refine wpAnyG_take 4 (v := ?_) rfl (by kernel_rfl) (by kernel_rfl) (by kernel_rfl) (by kernel_rfl) (by rfl) (by kernel_rfl) (fun _ _ _ h => h) (by rfl) (fun w' hw' => ?_) gS ?_
                rotate_left
                focus (go_simp; (try with_reducible rfl); done)
                (try simp only [Act.put, List.getElem_toArray, List.getElem_cons_succ, List.getElem_cons_zero, List.setIfInBounds_toArray, List.set_cons_zero, List.set_cons_succ])
                refine wpAnyG_take 5 (v := ?_) rfl (by kernel_rfl) (by kernel_rfl) (by kernel_rfl) (by kernel_rfl) (by rfl) (by kernel_rfl) (fun _ _ _ h => h) (by rfl) (fun w' hw' => ?_) gS ?_
                rotate_left
                focus (go_simp; (try with_reducible rfl); done)
                (try simp only [Act.put, List.getElem_toArray, List.getElem_cons_succ, List.getElem_cons_zero, List.setIfInBounds_toArray, List.set_cons_zero, List.set_cons_succ])
                refine wpAnyG_take 6 (v := ?_) rfl (by kernel_rfl) (by kernel_rfl) (by kernel_rfl) (by kernel_rfl) (by rfl) (by kernel_rfl) (fun _ _ _ h => h) (by rfl) (fun w' hw' => ?_) gS ?_
                rotate_left
                focus (go_simp; (try with_reducible rfl); done)
                (try simp only [Act.put, List.getElem_toArray, List.getElem_cons_succ, List.getElem_cons_zero, List.setIfInBounds_toArray, List.set_cons_zero, List.set_cons_succ])
                refine wpAnyG_take 7 (v := ?_) rfl (by kernel_rfl) (by kernel_rfl) (by kernel_rfl) (by kernel_rfl) (by rfl) (by kernel_rfl) (fun _ _ _ h => h) (by rfl) (fun w' hw' => ?_) gS ?_
                rotate_left
                focus (have hh := HS.out _ hw'; go_split_ands; go_simp; (try with_reducible rfl); done)
                (try simp only [Act.put, List.getElem_toArray, List.getElem_cons_succ, List.getElem_cons_zero, List.setIfInBounds_toArray, List.set_cons_zero, List.set_cons_succ])
                refine wpAnyG_one 8 (by kernel_rfl) rfl (by rfl) (fun K hK => ?_)
                go_simp
                go_at_call 28
                refine (rcmp_e (HEP.out.below gS) (HEX.out.below gS) (by omega) (by omega) (by omega) cmp_self).mono ?_
                rintro _ s8 ⟨rfl, x8⟩
                have gS : Ext wr s8 := Ext.trans gS x8
                have gR := gS
                (try go_wp2_with fail)
                refine hK.out _ _ (fun _ => gS) ?_
                clear hK K
                (try simp only [Act.put, List.getElem_toArray, List.getElem_cons_succ, List.getElem_cons_zero, List.setIfInBounds_toArray, List.set_cons_zero, List.set_cons_succ])
                refine wpAnyG_one 9 (by kernel_rfl) rfl (by rfl) (fun K hK => ?_)
                (try simp only [List.getElem_toArray, List.getElem_cons_succ, List.getElem_cons_zero])
                go_simp
                refine hK.out _ _ (fun h => absurd h (by decide)) ?_
                clear hK K
                (try simp only [Act.put, List.getElem_toArray, List.getElem_cons_succ, List.getElem_cons_zero, List.setIfInBounds_toArray, List.set_cons_zero, List.set_cons_succ])
                refine wpAnyG_done (by kernel_rfl) ?_ _
                go_wp2
                go_meet
                exact ⟨rfl, gR⟩
              case rest =>
                obtain ⟨rfl, hxx⟩ := hcut
                go_wp2
                go_roundw
                case rel => exact ⟨k + 1, by omega, by go_num, hy.trans hxx⟩
                case measure => simp [intOf]; omega
            · obtain rfl : m = k := by omega
              have hkk : ¬ ((m : Int) < (m : Int)) := by omega
              go_wp2
              go_ret
              exact ⟨rfl, X8.trans hy⟩
      · have hno : ¬ validL (lensOf n len) ∨ m ≠ (lensOf n len).length := by
          by_cases h1 : validL (lensOf n len)
          · exact .inr fun h2 => hok ⟨h1, by rw [h2, lensOf_length]⟩
          · exact .inl h1
        have HSP := Lib.hid (fun (w' : World) (h : Ext w w') => msolve_no (HLN.out w' h) (HX.out w' h) hno)
        have HSR := Lib.hid (fun (w' : World) (h : Ext w w') => rsolve_no (HLN.out w' h) (HX.out w' h) hno)
        clear hf hs2 hok hno hg hgk hfx
        go_enter Try.func4, Try.ntmps4
        go_wp2_with (first
                | (go_at_call 12; (with_reducible refine (HFW.out _ x1).mono ?_); rintro e w2 hgb; obtain ⟨rfl, x2⟩ := hgb.t HF.out)
                | (go_at_call 23; (with_reducible refine (HSW.out _ (x1.trans x2)).mono ?_); rintro e w3 hgb; obtain ⟨rfl, x3⟩ := hgb.t HSF.out)
                | (go_at_call 24; (with_reducible refine (HSP.out _ ((x1.trans x2).trans x3)).mono ?_); rintro e w4 ⟨rfl, x4⟩)
                | (go_at_call 25; (with_reducible refine (HSR.out _ (((x1.trans x2).trans x3).trans x4)).mono ?_); rintro e w5 ⟨rfl, x5⟩)
                | (go_at_call 26; (with_reducible refine (efracs_same (EFs.nil_ true _ (fun _ => 0)) (EFs.nil_ true _ (fun _ => 0)) (fun _ _ => rfl)).mono ?_); rintro e w7 ⟨rfl, x7⟩; have y7 := x6.trans x7)
                | (go_at_call 26; (with_reducible refine (efracs_same (EFs.nil_ true _ (fun _ => 0)) (EFs.nil_ true _ (fun _ => 0)) (fun _ _ => rfl)).mono ?_); rintro e w6 ⟨rfl, x6⟩)
                | (go_at_call 11; (with_reducible refine awake_t.mono ?_); rintro e w1 ⟨rfl, x1⟩))
        go_ret
        exact ⟨by first | rfl | simp, ((x1.trans x2).trans x3).trans ((x4.trans x5).trans y7)⟩
    · have HF := Lib.hid hf
      have HSF := Lib.hid hs2
      clear hf hs2
      go_enter Try.func4, Try.ntmps4
      go_wp2_with (first
              | (go_at_call 12; (with_reducible refine (HFW.out _ x1).mono ?_); rintro e w2 hgb; obtain ⟨rfl, x2⟩ := hgb.t HF.out)
              | (go_at_call 23; (with_reducible refine (HSW.out _ (x1.trans x2)).mono ?_); rintro e w3 hgb; obtain ⟨rfl, x3⟩ := hgb.f HSF.out)
              | (go_at_call 11; (with_reducible refine awake_t.mono ?_); rintro e w4 ⟨rfl, x4⟩; have y4 := (x2.trans x3).trans x4)
              | (go_at_call 11; (with_reducible refine awake_t.mono ?_); rintro e w1 ⟨rfl, x1⟩))
      go_ret
      exact ⟨rfl, x1.trans y4⟩
  · have HF := Lib.hid hf
    clear hf
    go_enter Try.func4, Try.ntmps4
    go_wp2_with (first
            | (go_at_call 12; (with_reducible refine (HFW.out _ x1).mono ?_); rintro e w2 hgb; obtain ⟨rfl, x2⟩ := hgb.f HF.out)
            | (go_at_call 11; (with_reducible refine awake_t.mono ?_); rintro e w4 ⟨rfl, x4⟩; have y4 := (x2).trans x4)
            | (go_at_call 11; (with_reducible refine awake_t.mono ?_); rintro e w1 ⟨rfl, x1⟩))
    go_ret
    exact ⟨rfl, x1.trans y4⟩

end Go.Proofs.Ytmfigiifflljpaa
