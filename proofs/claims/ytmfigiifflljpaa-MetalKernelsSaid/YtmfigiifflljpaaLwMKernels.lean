/- law: MetalKernels. -/
import Derived.Test.YtmfigiifflljpaaMetV
import Derived.Test.YtmfigiifflljpaaMetJ
import Derived.Test.YtmfigiifflljpaaMetG
set_option linter.unusedVariables false
set_option linter.unusedSimpArgs false
set_option maxRecDepth 100000
namespace Go.Proofs.Ytmfigiifflljpaa
open Go.RowKit Num

theorem GivesM.none' {w w' : World} {C : Nat} {M : Mx} {er : Int} {e : Ending} (h : e = .returned (.tuple #[.slice none 0 0, .int .i64 er]) ∧ Ext w w') : GivesM w 0 C M er e w' := ⟨_, _, h.1, EMat.nil_ _ _ _ _, h.2⟩
theorem frL_mem {R : Rd} {C i : Nat} (hi : i < (frL R C).length) : (frL R C).getD i 0 < C ∧ (frL R C).getD i 0 ∉ R.leads := by
  have h : (frL R C).getD i 0 ∈ frL R C := by
    rw [List.getD_eq_getElem?_getD, List.getElem?_eq_getElem hi]
    exact List.getElem_mem hi
  unfold frL at h ⊢
  have h2 := List.mem_filter.1 h
  exact ⟨List.mem_range.1 h2.1, of_decide_eq_true h2.2⟩
theorem ker_fb {M : Mx} {n C L c : Nat} (h : FBm (rrefs M n C).m n C L) (hL : 3 ≤ L) (hc : c < C) (j : Nat) : FB (kerV (rrefs M n C) c j) L := by
  unfold kerV
  split
  · exact fb_oneM.mono hL
  · split
    · rename_i hj
      have h1 : (rrefs M n C).leads.idxOf j < (rrefs M n C).leads.length := List.idxOf_lt_length_iff.2 hj
      exact FB.neg (h _ c (by have := (ech M n C).len; omega) hc)
    · exact fb_zeroM.mono hL
set_option maxHeartbeats 16000000 in
theorem law_MKernels {v : Value} {z : Nat × (Nat → Nat) × (Nat → Nat → FracIn)} {w : World} (hv : InMat w v z.1 z.2.1 z.2.2) :
    Calls Try.prog 6 #[v] w (fun e w' => e = .returned (.bool true) ∧ Ext w w') := by
  obtain ⟨n, len, F⟩ := z
  simp only at hv
  have HV := Lib.hid (fun (w' : World) (h : Ext w w') => hv.below h)
  have HFW := Lib.hid (fun (w' : World) (h : Ext w w') => rfew_l (hv.below h))
  have HLN := Lib.hid (fun (w' : World) (h : Ext w w') => (hv.below h).lens)
  obtain ⟨A, cap, rfl, hc1, hc2⟩ := hv.form
  clear hv
  by_cases hf : fewM n len F
  · have HF := Lib.hid hf
    by_cases hvl : validL (lensOf n len)
    · obtain ⟨hn4, c, hc4, hz, hl, hs, hhd⟩ := few_valid hf hvl
      have HE := Lib.hid (fun (w' : World) (h : Ext w w') => ((HV.out w' h).emat hl hs).1)
      have hfb := ((HV.out w (Below.refl _ _)).emat hl hs).2
      obtain ⟨M, hM⟩ : ∃ M : Mx, M = fun i j => fxQ (F i j) := ⟨_, rfl⟩
      rw [← hM] at HE hfb
      have HKP := Lib.hid (fun (w' : World) (h : Ext w w') => mkernel_ok (HE.out w' h) (Nat.le_refl 3) (by omega) hfb (by omega) (by omega) hz)
      have HKR := Lib.hid (fun (w' : World) (h : Ext w w') => rkernel_ok (HE.out w' h) (Nat.le_refl 3) (by omega) hfb (by omega) (by omega) hz)
      have HRK := Lib.hid (fun (w' : World) (h : Ext w w') => mrank_ok (HE.out w' h) (Nat.le_refl 3) (by omega) hfb (by omega) (by omega) hz)
      have hfr : FBm (rrefs M n c).m n c 7203 := (fbm_rrefs hfb (by omega) c (Nat.le_refl _)).mono (by
        have : 7 ^ c ≤ 7 ^ 4 := Nat.pow_le_pow_right (by decide) hc4
        omega)
      have HTI := Lib.hid (fun (w' : World) (h : Ext w w') (i : Nat) (hi : i < (frL (rrefs M n c) c).length) (y : Value) (hy : EFs true w' y c (kerV (rrefs M n c) ((frL (rrefs M n c) c).getD i 0))) => (mtimes_ok (HE.out w' h) hy (hfb.mono (L' := 7203) (by omega)) (fun k hk => ker_fb hfr (by omega) (frL_mem hi).1 k) (by omega) (by omega) (by omega) (by omega) hz).mono fun e w' h => h.congr (g := fun _ => 0) rfl rfl (fun k hk => kerV_rrefs (frL_mem hi).1 (frL_mem hi).2 k hk))
      have HCN := Lib.hid (show (frL (rrefs M n c) c).length + rk M n c = c from free_count (asc_nodup (ech M n c).asc) (ech M n c).lt)
      have hkl := frL_len (rrefs M n c) c
      obtain ⟨KM, hKM⟩ : ∃ KM : Mx, KM = fun i => kerV (rrefs M n c) ((frL (rrefs M n c) c).getD i 0) := ⟨_, rfl⟩
      have hKMi : ∀ i, kerV (rrefs M n c) ((frL (rrefs M n c) c).getD i 0) = KM i := fun i => (congrFun hKM i).symm
      rw [← hKM] at HKP HKR
      simp only [hKMi] at HTI
      obtain ⟨kn, hkn⟩ : ∃ kn, kn = (frL (rrefs M n c) c).length := ⟨_, rfl⟩
      obtain ⟨r, hr⟩ : ∃ r, r = rk M n c := ⟨_, rfl⟩
      rw [← hkn] at HKP HKR HTI HCN hkl
      rw [← hr] at HRK HCN
      have hcn : kn + r = c := HCN.out
      have HZ := Lib.hid hz
      clear hf hvl hl hs hz hfb hfr hM hKM hKMi hkn hr hhd
      go_enter Try.func6, Try.ntmps6
      go_upto_region 9 with (first
        | (go_at_call 12; (with_reducible refine (HFW.out _ x1).mono ?_); rintro e w2 hgb; obtain ⟨rfl, x2⟩ := hgb.t HF.out)
        | (go_at_call 30; (with_reducible refine (HKP.out _ (x1.trans x2)).mono ?_); rintro e w3 ⟨A3, c3, rfl, h3, x3⟩)
        | (go_at_call 31; (with_reducible refine (HKR.out _ ((x1.trans x2).trans x3)).mono ?_); rintro e w4 ⟨A4, c4, rfl, h4, x4⟩)
        | (go_at_call 19; (with_reducible refine (ematrix_same (h3.below x4) h4 (fun _ _ _ _ => rfl) (by omega)).mono ?_); rintro e w5 ⟨rfl, x5⟩)
        | (go_at_call 13; (with_reducible refine (HRK.out _ ((x1.trans x2).trans ((x3.trans x4).trans x5))).mono ?_); rintro e w6 ⟨rfl, x6⟩)
        | (go_at_call 11; (with_reducible refine awake_t.mono ?_); rintro e w1 ⟨rfl, x1⟩))
      have X6 : Ext w w6 := (x1.trans x2).trans (((x3.trans x4).trans x5).trans x6)
      have HKM := Lib.hid (fun (w' : World) (h : Ext w6 w') => h3.below (((x4.trans x5).trans x6).trans h))
      clear h3 h4 x1 x2 x3 x4 x5 x6 hgb
      go_upto_if 60 with (fail)
      go_cut [9] (fun cv wx => w6 = wx ∧ cv = .int .i64 (c : Int))
      case first =>
        by_cases hn0 : n = 0
        · have HC0 := Lib.hid (HZ.out hn0)
          have hni : ¬ ((0 : Int) < (n : Int)) := by omega
          clear hn0
          go_wp2
          go_meet
          exact ⟨rfl, by rw [HC0.out]; rfl⟩
        · have hni : (0 : Int) < (n : Int) := by omega
          obtain ⟨b9, o9, A9, cp9, rfl, hb9, hc9, _⟩ := (HE.out _ X6).at_ (k := 0) (by omega)
          rw [Nat.add_zero] at hc9
          go_wp2
          go_meet
          exact ⟨rfl, rfl⟩
      case rest =>
        obtain ⟨hww, rfl⟩ := hcut
        subst hww
        go_wp2
        go_loopw [10] (fun iv wr => ∃ i : Nat, i ≤ kn ∧ iv = .int .i64 i ∧ Ext w6 wr) (fun iv _ => kn - (intOf iv).toNat)
        case atStart => exact ⟨0, Nat.zero_le _, rfl, Below.refl _ _⟩
        case round =>
          obtain ⟨i, hi, rfl, hy⟩ := hrel
          by_cases hik : i < kn
          · obtain ⟨bk, ok, A5, cp5, rfl, hbk, hck, hrow⟩ := (HKM.out _ hy).at_ hik
            have hi1 : (0 : Int) ≤ (i : Int) := by omega
            have hi2 : (i : Int) < (kn : Int) := by omega
            have HT := Lib.hid (HTI.out _ (X6.trans hy) i hik _ hrow)
            clear hrow
            go_wp2_with (go_at_call 27; (with_reducible refine HT.out.mono ?_); rintro e w7 ⟨A7, c7, rfl, h7, x7⟩)
            have HP := Lib.hid (fun (w' : World) (h : Ext w7 w') => h7.below h)
            have Y7 : Ext w6 w7 := hy.trans x7
            clear h7 hck
            go_loopw [13] (fun iv wr => ∃ j : Nat, j ≤ n ∧ iv = .int .i64 j ∧ Ext w7 wr) (fun iv _ => n - (intOf iv).toNat)
            case atStart => exact ⟨0, Nat.zero_le _, rfl, Below.refl _ _⟩
            case round =>
              obtain ⟨j, hj, rfl, hyj⟩ := hrel
              by_cases hjn : j < n
              · obtain ⟨b, o, ng, D1, p1, d1, D2, p2, d2, rfl, hb, e0, e1, e2, he⟩ := (HP.out _ hyj).at_ hjn
                have hj1 : (0 : Int) ≤ (j : Int) := by omega
                have hj2 : (j : Int) < (n : Int) := by omega
                have HSG := Lib.hid (show Calls Try.prog 32 #[.agg #[.bool ng, .slice D1 p1 d1, .slice D2 p2 d2]] wr (fun e w'' => e = .returned (.int .i64 0) ∧ Ext wr w'') from rsign_f (FracV.any he.can fb_zeroM (by omega)) (by omega))
                clear he
                go_wp2_with (go_at_call 32; (with_reducible refine HSG.out.mono ?_); rintro e w8 ⟨rfl, x8⟩)
                go_roundw
                case rel => exact ⟨j + 1, by omega, by go_num, hyj.trans x8⟩
                case measure => simp [intOf]; omega
              · obtain rfl : n = j := by omega
                have hjj : ¬ ((n : Int) < (n : Int)) := by omega
                go_wp2
                go_roundw
                case rel => exact ⟨i + 1, by omega, by go_num, Y7.trans hyj⟩
                case measure => simp [intOf]; omega
          · obtain rfl : kn = i := by omega
            have hkk : ¬ ((kn : Int) < (kn : Int)) := by omega
            have hsub : (c : Int) - (r : Int) = (kn : Int) := by omega
            have hwr : IntKind.i64.wrap (kn : Int) = (kn : Int) := wrap_in (by omega)
            go_wp2
            go_ret
            exact ⟨by first | rfl | simp, X6.trans hy⟩
    · have HKP := Lib.hid (fun (w' : World) (h : Ext w w') => mkernel_no (HLN.out w' h) hvl)
      have HKR := Lib.hid (fun (w' : World) (h : Ext w w') => rkernel_no (HLN.out w' h) hvl)
      clear hf hvl
      go_enter Try.func6, Try.ntmps6
      go_wp2_with (first
              | (go_at_call 12; (with_reducible refine (HFW.out _ x1).mono ?_); rintro e w2 hgb; obtain ⟨rfl, x2⟩ := hgb.t HF.out)
              | (go_at_call 30; (with_reducible refine (HKP.out _ (x1.trans x2)).mono ?_); rintro e w3 ⟨rfl, x3⟩)
              | (go_at_call 31; (with_reducible refine (HKR.out _ ((x1.trans x2).trans x3)).mono ?_); rintro e w4 ⟨rfl, x4⟩)
              | (go_at_call 19; (with_reducible refine (ematrix_same (EMat.nil_ true w5 0 (fun _ _ => 0)) (EMat.nil_ true w5 0 (fun _ _ => 0)) (fun _ _ _ _ => rfl) (by omega)).mono ?_); rintro e w6 ⟨rfl, x6⟩; have y6 := x5.trans x6)
              | (go_at_call 19; (with_reducible refine (ematrix_same (EMat.nil_ true w4 0 (fun _ _ => 0)) (EMat.nil_ true w4 0 (fun _ _ => 0)) (fun _ _ _ _ => rfl) (by omega)).mono ?_); rintro e w5 ⟨rfl, x5⟩)
              | (go_at_call 11; (with_reducible refine awake_t.mono ?_); rintro e w1 ⟨rfl, x1⟩))
      go_ret
      exact ⟨rfl, (x1.trans x2).trans ((x3.trans x4).trans y6)⟩
  · have HF := Lib.hid hf
    clear hf
    go_enter Try.func6, Try.ntmps6
    go_wp2_with (first
            | (go_at_call 12; (with_reducible refine (HFW.out _ x1).mono ?_); rintro e w2 hgb; obtain ⟨rfl, x2⟩ := hgb.f HF.out)
            | (go_at_call 11; (with_reducible refine awake_t.mono ?_); rintro e w4 ⟨rfl, x4⟩; have y4 := (x2).trans x4)
            | (go_at_call 11; (with_reducible refine awake_t.mono ?_); rintro e w1 ⟨rfl, x1⟩))
    go_ret
    exact ⟨rfl, x1.trans y4⟩

end Go.Proofs.Ytmfigiifflljpaa
