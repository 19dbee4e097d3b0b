/- law: MetalSolves. -/
import Derived.Test.YtmfigiifflljpaaMetV
import Derived.Test.YtmfigiifflljpaaMetJ
import Derived.Test.YtmfigiifflljpaaRFrac
set_option linter.unusedVariables false
set_option linter.unusedSimpArgs false
set_option maxRecDepth 100000
namespace Go.Proofs.Ytmfigiifflljpaa
open Go.RowKit Num

theorem dot_fb4 {f g : Nat → Rat} {n : Nat} (hf : ∀ k, k < n → FB (f k) 3) (hg : ∀ k, k < n → FB (g k) 3) (hn : n ≤ 4) : FB (dotR f g n) 40 :=
  (sm_fb (f := fun j => f j * g j) (L := 3 + 3) (n := n) fun j hj => FB.mul (hf j hj) (hg j hj) (by omega)).mono (by omega)
/-- What the solution of a product is. -/
theorem solve_back {A : Mx} {x : Nat → Rat} {n N : Nat} : (rk A n N < N → solE (rrefs (wide A (fun i => dotR (A i) x N) N) n (N + 1)) N = 9) ∧ (¬ rk A n N < N → solN (rrefs (wide A (fun i => dotR (A i) x N) N) n (N + 1)) N = N ∧ solE (rrefs (wide A (fun i => dotR (A i) x N) N) n (N + 1)) N = 0 ∧ ∀ j, j < N → (rrefs (wide A (fun i => dotR (A i) x N) N) n (N + 1)).m j N = x j) := by
  have h1 : N ∉ (rrefs (wide A (fun i => dotR (A i) x N) N) n (N + 1)).leads := lead_not (fun i _ => rfl)
  have h2 := leads_wide A (fun i => dotR (A i) x N) n N h1
  have h3 : (rrefs (wide A (fun i => dotR (A i) x N) N) n (N + 1)).leads.length = rk A n N := by rw [h2]; rfl
  refine ⟨fun hr => ?_, fun hr => ⟨?_, ?_, ?_⟩⟩
  · unfold solE
    rw [if_neg h1, if_pos (by omega)]
  · unfold solN
    rw [if_neg h1, if_neg (by omega)]
  · unfold solE
    rw [if_neg h1, if_neg (by omega)]
  · exact fun j hj => ((solved h1 (by omega)).2.2 x (fun i _ => rfl) j hj).symm
set_option maxHeartbeats 8000000 in
theorem law_MSolves {v u : Value} {z : Nat × (Nat → Nat) × (Nat → Nat → FracIn)} {z2 : Nat × (Nat → FracIn)} {w : World} (hv : InMat w v z.1 z.2.1 z.2.2) (hu : InFs w u z2.1 z2.2) :
    Calls Try.prog 5 #[v, u] w (fun e w' => e = .returned (.bool true) ∧ Ext w w') := by
  obtain ⟨n, len, F⟩ := z
  simp only at hv
  have HV := Lib.hid (fun (w' : World) (h : Ext w w') => hv.below h)
  have HFW := Lib.hid (fun (w' : World) (h : Ext w w') => rfew_l (hv.below h))
  have HLN := Lib.hid (fun (w' : World) (h : Ext w w') => (hv.below h).lens)
  obtain ⟨m, G⟩ := z2
  simp only at hu
  have HU := Lib.hid (fun (w' : World) (h : Ext w w') => hu.below h)
  have HSW := Lib.hid (fun (w' : World) (h : Ext w w') => rsmall_l (hu.below h))
  obtain ⟨A, cap, rfl, hc1, hc2⟩ := hv.form
  obtain ⟨A', cap', rfl, hc3, hc4⟩ := hu.form
  clear hv hu
  by_cases hf : fewM n len F
  · by_cases hs2 : smallF m G
    · have HX := Lib.hid (fun (w' : World) (h : Ext w w') => ((HU.out w' h).efs hs2.2).1)
      have hfx := ((HU.out w (Below.refl _ _)).efs hs2.2).2
      obtain ⟨g, hg⟩ : ∃ g : Nat → Rat, g = fun k => fxQ (G k) := ⟨_, rfl⟩
      have hgk : ∀ k, fxQ (G k) = g k := fun k => (congrFun hg k).symm
      rw [← hg] at HX
      simp only [hgk] at hfx
      have HF := Lib.hid hf
      have HSF := Lib.hid hs2
      by_cases hok : validL (lensOf n len) ∧ m = (lensOf n len).headD 0
      · obtain ⟨hvl, hm⟩ := hok
        obtain ⟨hn4, c, hc4, hz, hl, hs, hhd⟩ := few_valid hf hvl
        have HE := Lib.hid (fun (w' : World) (h : Ext w w') => ((HV.out w' h).emat hl hs).1)
        have hfb := ((HV.out w (Below.refl _ _)).emat hl hs).2
        obtain ⟨M, hM⟩ : ∃ M : Mx, M = fun i j => fxQ (F i j) := ⟨_, rfl⟩
        rw [← hM] at HE hfb
        have HFB := Lib.hid hfb
        rw [hhd] at hm
        subst hm
        have HFX := Lib.hid hfx
        have HTI := Lib.hid (fun (w' : World) (h : Ext w w') => mtimes_ok (HE.out w' h) (HX.out w' h) hfb hfx (Nat.le_refl 3) (by omega) (by omega) (by omega) hz)
        have HRK := Lib.hid (fun (w' : World) (h : Ext w w') => mrank_ok (HE.out w' h) (Nat.le_refl 3) (by omega) hfb (by omega) (by omega) hz)
        have HSO := Lib.hid (fun (w' : World) (h : Ext w w') (y : Value) (hy : EFs true w' y n (fun i => dotR (M i) g m)) => msolve_ok (HE.out w' h) hy.weak (hfb.mono (L' := 40) (by omega)) (fun k hk => dot_fb4 (fun j hj => hfb k j hk hj) hfx hc4) (by omega) (by omega) (by omega) (by omega) hz)
        obtain ⟨r, hr⟩ : ∃ r, r = rk M n m := ⟨_, rfl⟩
        have hback := solve_back (A := M) (x := g) (n := n) (N := m)
        rw [← hr] at HRK hback
        have HBK := Lib.hid hback
        clear hf hs2 hvl hl hs hz hfb hfx hM hr hg hgk hback hhd
        by_cases hrm : r < m
        · have hri : (r : Int) < (m : Int) := by omega
          have HS9 := Lib.hid (fun (w' : World) (h : Ext w w') (y : Value) (hy : EFs true w' y n (fun i => dotR (M i) g m)) => ((HSO.out w' h y hy).mono fun e w' h => h.congr rfl (HBK.out.1 hrm) (fun _ _ => rfl)))
          go_enter Try.func5, Try.ntmps5
          go_wp2_with (first
                  | (go_at_call 12; (with_reducible refine (HFW.out _ x1).mono ?_); rintro e w2 hgb; obtain ⟨rfl, x2⟩ := hgb.t HF.out)
                  | (go_at_call 23; (with_reducible refine (HSW.out _ (x1.trans x2)).mono ?_); rintro e w3 hgb; obtain ⟨rfl, x3⟩ := hgb.t HSF.out)
                  | (go_at_call 27; (with_reducible refine (HTI.out _ ((x1.trans x2).trans x3)).mono ?_); rintro e w4 ⟨A4, c4, rfl, h4, x4⟩)
                  | (go_at_call 13; (with_reducible refine (HRK.out _ ((x1.trans x2).trans (x3.trans x4))).mono ?_); rintro e w5 ⟨rfl, x5⟩)
                  | (go_at_call 24; (with_reducible refine (HS9.out _ (((x1.trans x2).trans (x3.trans x4)).trans x5) _ (h4.below x5)).mono ?_); rintro e w6 ⟨A6, c6, rfl, h6, x6⟩)
                  | (go_at_call 11; (with_reducible refine awake_t.mono ?_); rintro e w1 ⟨rfl, x1⟩))
          go_ret
          exact ⟨rfl, ((x1.trans x2).trans (x3.trans x4)).trans (x5.trans x6)⟩
        · have hri : ¬ ((r : Int) < (m : Int)) := by omega
          have hmm : ((m : Int) != (m : Int)) = false := by simp
          have HS0 := Lib.hid (fun (w' : World) (h : Ext w w') (y : Value) (hy : EFs true w' y n (fun i => dotR (M i) g m)) => ((HSO.out w' h y hy).mono fun e w' h => h.congr (HBK.out.2 hrm).1 (HBK.out.2 hrm).2.1 (HBK.out.2 hrm).2.2))
          go_enter Try.func5, Try.ntmps5
          go_wp2_with (first
                  | (go_at_call 12; (with_reducible refine (HFW.out _ x1).mono ?_); rintro e w2 hgb; obtain ⟨rfl, x2⟩ := hgb.t HF.out)
                  | (go_at_call 23; (with_reducible refine (HSW.out _ (x1.trans x2)).mono ?_); rintro e w3 hgb; obtain ⟨rfl, x3⟩ := hgb.t HSF.out)
                  | (go_at_call 27; (with_reducible refine (HTI.out _ ((x1.trans x2).trans x3)).mono ?_); rintro e w4 ⟨A4, c4, rfl, h4, x4⟩)
                  | (go_at_call 13; (with_reducible refine (HRK.out _ ((x1.trans x2).trans (x3.trans x4))).mono ?_); rintro e w5 ⟨rfl, x5⟩)
                  | (go_at_call 24; (with_reducible refine (HS0.out _ (((x1.trans x2).trans (x3.trans x4)).trans x5) _ (h4.below x5)).mono ?_); rintro e w6 ⟨A6, c6, rfl, h6, x6⟩)
                  | (go_at_call 11; (with_reducible refine awake_t.mono ?_); rintro e w1 ⟨rfl, x1⟩))
          have X6 : Ext w w6 := ((x1.trans x2).trans (x3.trans x4)).trans (x5.trans x6)
          have HY := Lib.hid (fun (w' : World) (h : Ext w6 w') => h6.below h)
          clear h4 h6 x1 x2 x3 x4 x5 x6
          go_loopw [11] (fun iv wr => ∃ k : Nat, k ≤ m ∧ iv = .int .i64 k ∧ Ext w6 wr) (fun iv _ => m - (intOf iv).toNat)
          case atStart => exact ⟨0, Nat.zero_le _, rfl, Below.refl _ _⟩
          case round =>
            obtain ⟨k, hk, rfl, hy⟩ := hrel
            by_cases hkm : k < m
            · obtain ⟨b, o, ng, D1, p1, d1, D2, p2, d2, rfl, hb, e0, e1, e2, he⟩ := (HY.out _ hy).at_ hkm
              obtain ⟨b', o', nh, E1, q1, f1, E2, q2, f2, rfl, hb', e3, e4, e5, he'⟩ := (HX.out _ (X6.trans hy)).at_ hkm
              have HEY := Lib.hid he.can
              have HEX := Lib.hid (he'.any (HFX.out k hkm) (Nat.le_refl 3) (by omega))
              have hi1 : (0 : Int) ≤ (k : Int) := by omega
              have hi2 : (k : Int) < (m : Int) := by omega
              have HS := Lib.hid (fun (w' : World) (h : Ext wr w') => (⟨⟨(h.cell (p := ⟨b, o + k * 3, none⟩) hb).trans e0, (h.cell (p := ⟨b, o + k * 3 + 1, none⟩) hb).trans e1, (h.cell (p := ⟨b, o + k * 3 + 2, none⟩) hb).trans e2⟩, (h.cell (p := ⟨b', o' + k * 3, none⟩) hb').trans e3, (h.cell (p := ⟨b', o' + k * 3 + 1, none⟩) hb').trans e4, (h.cell (p := ⟨b', o' + k * 3 + 2, none⟩) hb').trans e5⟩ : (w'.cell? ⟨b, o + k * 3, none⟩ = some (.bool ng) ∧ w'.cell? ⟨b, o + k * 3 + 1, none⟩ = some (.slice D1 p1 d1) ∧ w'.cell? ⟨b, o + k * 3 + 2, none⟩ = some (.slice D2 p2 d2)) ∧ w'.cell? ⟨b', o' + k * 3, none⟩ = some (.bool nh) ∧ w'.cell? ⟨b', o' + k * 3 + 1, none⟩ = some (.slice E1 q1 f1) ∧ w'.cell? ⟨b', o' + k * 3 + 2, none⟩ = some (.slice E2 q2 f2)))
              clear he he' e0 e1 e2 e3 e4 e5
              go_upto_region 17 with (fail)
              go_cut [80] (fun bv wx => bv = .bool false ∧ Ext wr wx)
              case first =>
                refine wp_region_G (fun w' => Ext wr w') [10] (by kernel_rfl) ?_
                have gS : Ext wr wr.drew := (Below.refl _ _).drew
                refine wpAnyG_take 0 (v := ?_) rfl (by kernel_rfl) (by kernel_rfl) (by kernel_rfl) (by kernel_rfl) (by rfl) (by kernel_rfl) (fun _ _ _ h => h) (by rfl) (fun w' hw' => ?_) gS ?_
                rotate_left
                focus (go_simp; (try with_reducible rfl); done)
                (try simp only [Act.put, List.getElem_toArray, List.getElem_cons_succ, List.getElem_cons_zero, List.setIfInBounds_toArray, List.set_cons_zero, List.set_cons_succ])
                refine wpAnyG_take 1 (v := ?_) rfl (by kernel_rfl) (by kernel_rfl) (by kernel_rfl) (by kernel_rfl) (by rfl) (by kernel_rfl) (fun _ _ _ h => h) (by rfl) (fun w' hw' => ?_) gS ?_
                rotate_left
                focus (go_simp; (try with_reducible rfl); done)
                (try simp only [Act.put, List.getElem_toArray, List.getElem_cons_succ, List.getElem_cons_zero, List.setIfInBounds_toArray, List.set_cons_zero, List.set_cons_succ])
                refine wpAnyG_take 2 (v := ?_) rfl (by kernel_rfl) (by kernel_rfl) (by kernel_rfl) (by kernel_rfl) (by rfl) (by kernel_rfl) (fun _ _ _ h => h) (by rfl) (fun w' hw' => ?_) gS ?_
                rotate_left
                focus (go_simp; (try with_reducible rfl); done)
                (try simp only [Act.put, List.getElem_toArray, List.getElem_cons_succ, List.getElem_cons_zero, List.setIfInBounds_toArray, List.set_cons_zero, List.set_cons_succ])
                refine wpAnyG_take 3 (v := ?_) rfl (by kernel_rfl) (by kernel_rfl) (by kernel_rfl) (by kernel_rfl) (by rfl) (by kernel_rfl) (fun _ _ _ h => h) (by rfl) (fun w' hw' => ?_) gS ?_
                rotate_left
                focus (have hh := HS.out _ hw'; go_split_ands; go_simp; (try with_reducible rfl); done)
                (try simp only [Act.put, List.getElem_toArray, List.getElem_cons_succ, List.getElem_cons_zero, List.setIfInBounds_toArray, List.set_cons_zero, List.set_cons_succ])
                refine wpAnyG_take 4 (v := ?_) rfl (by kernel_rfl) (by kernel_rfl) (by kernel_rfl) (by kernel_rfl) (by rfl) (by kernel_rfl) (fun _ _ _ h => h) (by rfl) (fun w' hw' => ?_) gS ?_
                rotate_left
                focus (go_simp; (try with_reducible rfl); done)
                (try simp only [Act.put, List.getElem_toArray, List.getElem_cons_succ, List.getElem_cons_zero, List.setIfInBounds_toArray, List.set_cons_zero, List.set_cons_succ])
                refine wpAnyG_take 5 (v := ?_) rfl (by kernel_rfl) (by kernel_rfl) (by kernel_rfl) (by kernel_rfl) (by rfl) (by kernel_rfl) (fun _ _ _ h => h) (by rfl) (fun w' hw' => ?_) gS ?_
                rotate_left
                focus (go_simp; (try with_reducible rfl); done)
                (try simp only [Act.put, List.getElem_toArray, List.getElem_cons_succ, List.getElem_cons_zero, List.setIfInBounds_toArray, List.set_cons_zero, List.set_cons_succ])
                refine wpAnyG_take 6 (v := ?_) rfl (by kernel_rfl) (by kernel_rfl) (by kernel_rfl) (by kernel_rfl) (by rfl) (by kernel_rfl) (fun _ _ _ h => h) (by rfl) (fun w' hw' => ?_) gS ?_
                rotate_left
                focus (go_simp; (try with_reducible rfl); done)
                (try simp only [Act.put, List.getElem_toArray, List.getElem_cons_succ, List.getElem_cons_zero, List.setIfInBounds_toArray, List.set_cons_zero, List.set_cons_succ])
                refine wpAnyG_take 7 (v := ?_) rfl (by kernel_rfl) (by kernel_rfl) (by kernel_rfl) (by kernel_rfl) (by rfl) (by kernel_rfl) (fun _ _ _ h => h) (by rfl) (fun w' hw' => ?_) gS ?_
                rotate_left
                focus (have hh := HS.out _ hw'; go_split_ands; go_simp; (try with_reducible rfl); done)
                (try simp only [Act.put, List.getElem_toArray, List.getElem_cons_succ, List.getElem_cons_zero, List.setIfInBounds_toArray, List.set_cons_zero, List.set_cons_succ])
                refine wpAnyG_one 8 (by kernel_rfl) rfl (by rfl) (fun K hK => ?_)
                go_simp
                go_at_call 29
                refine (rnorm_f (HEX.out.below gS) (by omega)).mono ?_
                rintro _ s7 ⟨b7, A7, k7, c7, B7, l7, d7, rfl, h7, x7, _, _⟩
                have gS : Ext wr s7 := Ext.trans gS x7
                (try go_wp2_with fail)
                refine hK.out _ _ (fun _ => gS) ?_
                clear hK K
                (try simp only [Act.put, List.getElem_toArray, List.getElem_cons_succ, List.getElem_cons_zero, List.setIfInBounds_toArray, List.set_cons_zero, List.set_cons_succ])
                refine wpAnyG_one 9 (by kernel_rfl) rfl (by rfl) (fun K hK => ?_)
                (try simp only [List.getElem_toArray, List.getElem_cons_succ, List.getElem_cons_zero])
                go_simp
                go_at_call 20
                refine (bfrac_same (HEY.out.below gS) h7).mono ?_
                rintro _ s8 ⟨rfl, x8⟩
                have gS : Ext wr s8 := Ext.trans gS x8
                have gR := gS
                (try go_wp2_with fail)
                refine hK.out _ _ (fun _ => gS) ?_
                clear hK K
                (try simp only [Act.put, List.getElem_toArray, List.getElem_cons_succ, List.getElem_cons_zero, List.setIfInBounds_toArray, List.set_cons_zero, List.set_cons_succ])
                refine wpAnyG_one 10 (by kernel_rfl) rfl (by rfl) (fun K hK => ?_)
                (try simp only [List.getElem_toArray, List.getElem_cons_succ, List.getElem_cons_zero])
                go_simp
                refine hK.out _ _ (fun h => absurd h (by decide)) ?_
                clear hK K
                (try simp only [Act.put, List.getElem_toArray, List.getElem_cons_succ, List.getElem_cons_zero, List.setIfInBounds_toArray, List.set_cons_zero, List.set_cons_succ])
                refine wpAnyG_done (by kernel_rfl) ?_ _
                go_wp2
                go_meet
                exact ⟨rfl, gR⟩
              case rest =>
                obtain ⟨rfl, hxx⟩ := hcut
                go_wp2
                go_roundw
                case rel => exact ⟨k + 1, by omega, by go_num, hy.trans hxx⟩
                case measure => simp [intOf]; omega
            · obtain rfl : m = k := by omega
              have hkk : ¬ ((m : Int) < (m : Int)) := by omega
              go_wp2
              go_ret
              exact ⟨rfl, X6.trans hy⟩
      · have hno : ¬ validL (lensOf n len) ∨ m ≠ (lensOf n len).headD 0 := by
          by_cases h1 : validL (lensOf n len)
          · exact .inr fun h2 => hok ⟨h1, h2⟩
          · exact .inl h1
        have HTI := Lib.hid (fun (w' : World) (h : Ext w w') => mtimes_no (HLN.out w' h) (HX.out w' h) hno)
        clear hf hs2 hok hno hg hgk hfx
        go_enter Try.func5, Try.ntmps5
        go_wp2_with (first
                | (go_at_call 12; (with_reducible refine (HFW.out _ x1).mono ?_); rintro e w2 hgb; obtain ⟨rfl, x2⟩ := hgb.t HF.out)
                | (go_at_call 23; (with_reducible refine (HSW.out _ (x1.trans x2)).mono ?_); rintro e w3 hgb; obtain ⟨rfl, x3⟩ := hgb.t HSF.out)
                | (go_at_call 27; (with_reducible refine (HTI.out _ ((x1.trans x2).trans x3)).mono ?_); rintro e w4 ⟨rfl, x4⟩)
                | (go_at_call 11; (with_reducible refine awake_t.mono ?_); rintro e w1 ⟨rfl, x1⟩))
        go_ret
        exact ⟨rfl, (x1.trans x2).trans (x3.trans x4)⟩
    · have HF := Lib.hid hf
      have HSF := Lib.hid hs2
      clear hf hs2
      go_enter Try.func5, Try.ntmps5
      go_wp2_with (first
              | (go_at_call 12; (with_reducible refine (HFW.out _ x1).mono ?_); rintro e w2 hgb; obtain ⟨rfl, x2⟩ := hgb.t HF.out)
              | (go_at_call 23; (with_reducible refine (HSW.out _ (x1.trans x2)).mono ?_); rintro e w3 hgb; obtain ⟨rfl, x3⟩ := hgb.f HSF.out)
              | (go_at_call 11; (with_reducible refine awake_t.mono ?_); rintro e w4 ⟨rfl, x4⟩; have y4 := (x2.trans x3).trans x4)
              | (go_at_call 11; (with_reducible refine awake_t.mono ?_); rintro e w1 ⟨rfl, x1⟩))
      go_ret
      exact ⟨rfl, x1.trans y4⟩
  · have HF := Lib.hid hf
    clear hf
    go_enter Try.func5, Try.ntmps5
    go_wp2_with (first
            | (go_at_call 12; (with_reducible refine (HFW.out _ x1).mono ?_); rintro e w2 hgb; obtain ⟨rfl, x2⟩ := hgb.f HF.out)
            | (go_at_call 11; (with_reducible refine awake_t.mono ?_); rintro e w4 ⟨rfl, x4⟩; have y4 := (x2).trans x4)
            | (go_at_call 11; (with_reducible refine awake_t.mono ?_); rintro e w1 ⟨rfl, x1⟩))
    go_ret
    exact ⟨rfl, x1.trans y4⟩

end Go.Proofs.Ytmfigiifflljpaa
