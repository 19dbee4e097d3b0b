/- metal: fraction.Sum of any list; Mix. -/
import Derived.Test.YtmfigiifflljpaaMetF
set_option linter.unusedVariables false
set_option linter.unusedSimpArgs false
set_option maxRecDepth 100000
namespace Go.Proofs.Ytmfigiifflljpaa
open Go.RowKit Num

theorem sm_fbB {f : Nat → Rat} {L n : Nat} (h : ∀ k, k < n → FB (f k) L) (hL : L ≤ 100000) (hn : n ≤ 9) : ∀ k, k ≤ n → FB (sm f k) 1900000 := fun k hk => by
  have h1 := sm_fb (f := f) (L := L) (n := k) fun j hj => h j (by omega)
  exact h1.mono (by
    have := Nat.mul_le_mul (show L + 1 ≤ 100001 by omega) (show k ≤ 9 by omega)
    omega)
set_option maxHeartbeats 4000000 in
theorem esum_n {K : Bool} {f : Nat → Rat} {n L : Nat} {v : Value} {w : World} (hv : EFs K w v n f) (hL : ∀ k, k < n → FB (f k) L) (hn : n ≤ 9) (hL3 : 3 ≤ L) (hLL : L ≤ 100000) :
    Calls Try.prog 65 #[v] w (GivesF w (sm f n)) := by
  have HL := Lib.hid hL
  have HB := Lib.hid (sm_fbB hL hLL hn)
  obtain ⟨A, c, rfl, hc1, hc2⟩ := hv.form
  have HV := Lib.hid (fun (w' : World) (h : Ext w w') => hv.below h)
  clear hv hL
  go_enter Try.func65, Try.ntmps65
  go_upto_region 1 with (fail)
  have hF0 := FBox.new w (.bool false) (.slice none 0 0) (.slice none 0 0) 34
  have x0 : Ext w (w.alloc (.cells #[.bool false, .slice none 0 0, .slice none 0 0] 34)) := ext_alloc (Below.refl _ _) _
  have hs0 : w.heap.size + 1 ≤ (w.alloc (.cells #[.bool false, .slice none 0 0, .slice none 0 0] 34)).heap.size := by simp
  generalize w.alloc (.cells #[.bool false, .slice none 0 0, .slice none 0 0] 34) = W0 at *
  have HF := Lib.hid (fun (w' : World) (h : Ext W0 w') => hF0.below h)
  have HE := Lib.hid x0
  have f0 : Ext W0 W0 := Below.refl _ _
  obtain ⟨r0, r1, r2, g0, g1, g2⟩ := hF0
  clear x0
  go_wp2_with fail
  refine (fof_n (n := 0) (d := 1) (by omega) (by omega)).mono ?_
  rintro e w6 ⟨b6, A6, k6, c6, A6', k6', c6', rfl, h6, y6, n6, n6'⟩
  rw [zero_firstM] at h6
  have hlo : W0.heap.size ≤ w6.heap.size := y6.size
  go_wp2
  have hG6 := FBox.new w6 (.bool b6) (.slice A6 k6 c6) (.slice A6' k6' c6') 34
  have Y6 : Ext W0 (w6.alloc (.cells #[.bool b6, .slice A6 k6 c6, .slice A6' k6' c6'] 34)) := ext_alloc y6 _
  have h6 := h6.below (ext_alloc (Below.refl _ _) (.cells #[.bool b6, .slice A6 k6 c6, .slice A6' k6' c6'] 34))
  have hsz6 : w6.heap.size < (w6.alloc (.cells #[.bool b6, .slice A6 k6 c6, .slice A6' k6' c6'] 34)).heap.size := by simp
  generalize w6.alloc (.cells #[.bool b6, .slice A6 k6 c6, .slice A6' k6' c6'] 34) = W6 at *
  generalize w6.heap.size = B6 at *
  go_loopw [9] (fun iv wr => ∃ k : Nat, k ≤ n ∧ iv = .int .i64 k ∧ FIm W0 wr B6 (sm f k)) (fun iv _ => n - (intOf iv).toNat)
  case atStart => exact ⟨0, Nat.zero_le _, rfl, b6, A6, k6, c6, A6', k6', c6', hG6, h6, Y6, n6, n6'⟩
  case round =>
    clear hG6 h6 Y6 n6 n6'
    obtain ⟨k, hk, rfl, cc, MA, mk, ml, MA', mk', ml', hM, vM, xM, nM, nM'⟩ := hrel
    have HM := Lib.hid (fun (w' : World) (h : Ext wr w') => hM.below h)
    have hMl := hM.lt
    obtain ⟨m0, m1, m2, gm0, gm1, gm2⟩ := hM
    by_cases hkl : k < n
    · have HMV := Lib.hid (fun (w' : World) (h : Ext wr w') => FracV.any (vM.below h) (HB.out k (by omega)) (by omega))
      have hX := xM
      clear vM
      obtain ⟨b, o, neg, A1, k1, c1, A2, k2, c2, rfl, hb, e0, e1, e2, fv⟩ := (HV.out _ (HE.out.trans xM)).at_ hkl
      have hi1 : (0 : Int) ≤ (k : Int) := by omega
      have hi2 : (k : Int) < (n : Int) := by omega
      have HFV := Lib.hid (fun (w' : World) (h : Ext wr w') => (fv.below h).any (HL.out k hkl) hL3 (by omega))
      clear fv
      go_upto_region 5 with (fail)
      have hN7 := FBox.new wr (.bool neg) (.slice A1 k1 c1) (.slice A2 k2 c2) 34
      have X7 : Ext wr (wr.alloc (.cells #[.bool neg, .slice A1 k1 c1, .slice A2 k2 c2] 34)) := ext_alloc (Below.refl _ _) _
      have hs7 : wr.heap.size + 1 ≤ ((wr.alloc (.cells #[.bool neg, .slice A1 k1 c1, .slice A2 k2 c2] 34))).heap.size := by simp
      generalize (wr.alloc (.cells #[.bool neg, .slice A1 k1 c1, .slice A2 k2 c2] 34)) = W7 at *
      obtain ⟨t0, t1, t2, _, _, _⟩ := hN7
      obtain ⟨m0, m1, m2, gm0, gm1, gm2⟩ := HM.out _ X7
      go_wp2_with (go_at_call 75; (with_reducible refine (add_f (HMV.out _ X7) (HFV.out _ X7) (HB.out k (by omega)) (HL.out k hkl) (by omega)).mono ?_); rintro _ s2 ⟨b8, A8, k8, c8, B8, l8, d8, rfl, h8, z2, n8, m8⟩; have f2 : Ext wr s2 := X7.trans z2; obtain ⟨m0, m1, m2, gm0, gm1, gm2⟩ := HM.out _ f2)
      go_roundw
      all_goals first
        | exact ⟨k + 1, by omega, by go_num, b8, A8, k8, c8, B8, l8, d8, (HM.out _ f2).put _ _ _, FracV.put h8 n8 m8 (by have := X7.size; omega) _ _ _, ext_put (hX.trans f2) (by omega) _ _ _, n8.mono (by have := hX.size; have := X7.size; omega), m8.mono (by have := hX.size; have := X7.size; omega)⟩
        | (simp [intOf]; omega)
    · obtain rfl : n = k := by omega
      have hkk : ¬ ((n : Int) < (n : Int)) := by omega
      obtain ⟨r0, r1, r2, g0, g1, g2⟩ := HF.out _ xM
      go_wp2
      obtain ⟨q0, q1, q2⟩ := set3 r0 r1 r2 (.bool cc) (.slice MA mk ml) (.slice MA' mk' ml')
      refine bodyPost_ret (v := .agg #[.bool cc, .slice MA mk ml, .slice MA' mk' ml']) (by simp [results, Try.results65, go_sem, q0, q1, q2]) rfl ?_
      exact GivesF.box (B := w.heap.size) (HE.out.trans xM) vM (nM.mono (by omega)) (nM'.mono (by omega)) (Nat.le_refl _)

/-- What a mixture answers: an error code, and the contents. -/
def mixE (g : Nat → Rat) (n : Nat) : Int := if ∃ i, i < n ∧ g i < 0 then 1 else if sm g n = 1 then 0 else 9
def mixN (g : Nat → Rat) (n C : Nat) : Nat := if (∃ i, i < n ∧ g i < 0) ∨ sm g n ≠ 1 then 0 else C
theorem sgn_neg {q : Rat} : sgnQ q < 0 ↔ q < 0 := by
  unfold sgnQ
  split
  · exact ⟨fun _ => ‹_›, fun _ => by decide⟩
  · split
    · exact ⟨fun h => absurd h (by decide), fun h => absurd h ‹_›⟩
    · exact ⟨fun h => absurd h (by decide), fun h => absurd h ‹_›⟩
theorem cmp_one {q : Rat} : cmpQ q 1 = 0 ↔ q = 1 := by
  unfold cmpQ
  constructor
  · intro h
    split at h
    · cases h
    · split at h
      · cases h
      · grind
  · intro h
    subst h
    decide +kernel

set_option maxHeartbeats 8000000 in
theorem mmix_ok {K K' : Bool} {v x : Value} {n C L : Nat} {M : Mx} {g : Nat → Rat} {w : World} (hv : EMat K w v n C M) (hx : EFs K' w x n g) (hfb : FBm M n C L) (hfx : ∀ k, k < n → FB (g k) L) (hL3 : 3 ≤ L) (hL : L ≤ 100000) (hn : n ≤ 8) (hC : C ≤ 8) (hz : n = 0 → C = 0) :
    Calls Try.prog 38 #[v, x] w (GivesL w (mixN g n C) (fun c => dotR (fun i => M i c) g n) (mixE g n)) := by
  have HVA := Lib.hid (hv.valid hn hC)
  have HCO := Lib.hid (fun (w' : World) (h : Ext w w') => (hv.below h).cols hz)
  have HB := Lib.hid (fun i (hi : i < n) j (hj : j < C) => hfb i j hi hj)
  have HFX := Lib.hid hfx
  have HV := Lib.hid (fun (w' : World) (h : Ext w w') => hv.below h)
  have HX := Lib.hid (fun (w' : World) (h : Ext w w') => hx.below h)
  have HSB := Lib.hid (sm_fbB hfx hL (by omega) n (Nat.le_refl _))
  obtain ⟨A, cap, rfl, hc1, hc2⟩ := hv.form
  obtain ⟨A0, c0, rfl, hc3, hc4⟩ := hx.form
  obtain ⟨i0, hi, hz0, hz1, hz2⟩ := info_parts info_frac
  have hnn : ((n : Int) != (n : Int)) = false := by simp
  obtain ⟨f, hf⟩ : ∃ f : Nat → Rat, f = fun c => dotR (fun i => M i c) g n := ⟨_, rfl⟩
  have HF := Lib.hid (fun i => congrFun hf i)
  rw [← hf]
  clear hv hx hfb hfx hz hf
  go_enter Try.func38, Try.ntmps38
  go_wp2_with (go_at_call 21; (with_reducible refine HVA.out.mono ?_); rintro e w1 ⟨rfl, x1⟩)
  go_loopw [25] (fun iv wr => ∃ k : Nat, k ≤ n ∧ iv = .int .i64 k ∧ (∀ i, i < k → ¬ g i < 0) ∧ Ext w wr) (fun iv _ => n - (intOf iv).toNat)
  case atStart => exact ⟨0, Nat.zero_le _, rfl, fun i hi => by omega, x1⟩
  case round =>
    obtain ⟨k, hk, rfl, hg, hx⟩ := hrel
    have HG := Lib.hid hg
    clear hg
    by_cases hkn : k < n
    · obtain ⟨b, o, neg, A1, k1, c1, A2, k2, c2, rfl, hb, e0, e1, e2, he⟩ := (HX.out _ hx).at_ hkn
      have hi1 : (0 : Int) ≤ (k : Int) := by omega
      have hi2 : (k : Int) < (n : Int) := by omega
      have HE := Lib.hid (fun (w' : World) (h : Ext wr w') => (he.below h).any (HFX.out k hkn) hL3 (by omega))
      obtain ⟨z, hz⟩ : ∃ z, sgnQ (g k) = z := ⟨_, rfl⟩
      have HZ := Lib.hid hz
      clear he hz
      go_upto_region 6 with (fail)
      have hN7 := FBox.new wr (.bool neg) (.slice A1 k1 c1) (.slice A2 k2 c2) 34
      have X7 : Ext wr (wr.alloc (.cells #[.bool neg, .slice A1 k1 c1, .slice A2 k2 c2] 34)) := ext_alloc (Below.refl _ _) _
      generalize (wr.alloc (.cells #[.bool neg, .slice A1 k1 c1, .slice A2 k2 c2] 34)) = W7 at *
      obtain ⟨t0, t1, t2, _, _, _⟩ := hN7
      by_cases hneg : g k < 0
      · have hq1 : z < 0 := by rw [← HZ.out]; exact sgn_neg.2 hneg
        have hME := Lib.hid (show mixE g n = 1 ∧ mixN g n C = 0 from ⟨by unfold mixE; rw [if_pos ⟨k, hkn, hneg⟩], by unfold mixN; rw [if_pos (.inl ⟨k, hkn, hneg⟩)]⟩)
        clear hneg
        go_wp2_with (go_at_call 47; (with_reducible refine (sign_e (HE.out _ X7) HZ.out).mono ?_); rintro e w8 ⟨rfl, x8⟩)
        go_ret2
        rw [hME.out.1, hME.out.2]
        exact GivesL.none ⟨rfl, (hx.trans X7).trans x8⟩
      · have hq1 : ¬ z < 0 := by rw [← HZ.out]; exact fun h => hneg (sgn_neg.1 h)
        have HNG := Lib.hid hneg
        clear hneg
        go_wp2_with (go_at_call 47; (with_reducible refine (sign_e (HE.out _ X7) HZ.out).mono ?_); rintro e w8 ⟨rfl, x8⟩)
        go_roundw
        case rel => exact ⟨k + 1, by omega, by go_num, fun i hi => by
          by_cases hik : i = k
          · rw [hik]; exact HNG.out
          · exact HG.out i (by omega), (hx.trans X7).trans x8⟩
        case measure => simp [intOf]; omega
    · obtain rfl : n = k := by omega
      have hkk : ¬ ((n : Int) < (n : Int)) := by omega
      have hno : ¬ ∃ i, i < n ∧ g i < 0 := fun ⟨i, h1, h2⟩ => HG.out i h1 h2
      have HNO := Lib.hid hno
      obtain ⟨z, hz⟩ : ∃ z, cmpQ (sm g n) 1 = z := ⟨_, rfl⟩
      have HZ := Lib.hid hz
      have HSM := Lib.hid (fun (w' : World) (h : Ext wr w') => esum_n (HX.out _ (hx.trans h)) HFX.out (by omega) hL3 hL)
      obtain ⟨S, hS⟩ : ∃ S, S = sm g n := ⟨_, rfl⟩
      have HSD := Lib.hid hS
      rw [← hS] at HSM HSB HZ
      clear hno hz hS
      have HST := Lib.hid (show S = 1 ↔ z = 0 from by rw [← HZ.out]; exact cmp_one.symm)
      by_cases hS1 : S = 1
      · have hq1 : (z != 0) = false := by rw [HST.out.1 hS1]; rfl
        have hq2 : z = 0 := HST.out.1 hS1
        have hME := Lib.hid (show mixE g n = 0 ∧ mixN g n C = C from ⟨by unfold mixE; rw [if_neg HNO.out, if_pos (by rw [← HSD.out, hS1])], by unfold mixN; rw [if_neg (fun h => h.elim HNO.out (fun h => h (by rw [← HSD.out, hS1])))]⟩)
        clear hS1
        go_wp2_with (first
          | (go_at_call 65; (with_reducible refine (HSM.out _ (Below.refl _ _)).mono ?_); rintro _ s2 ⟨b2, A2, k2, c2, B2, l2, d2, rfl, h2, z2, _, _⟩)
          | (go_at_call 46; (with_reducible refine (fof_n (n := 1) (d := 1) (by omega) (by omega)).mono ?_); rw [one_firstM]; rintro _ s3 ⟨b3, A3, k3, c3, B3, l3, d3, rfl, h3, z3, _, _⟩)
          | (go_at_call 64; (with_reducible refine (cmp_e (FracV.any (h2.below z3) HSB.out (by omega)) (FracV.any h3 fb_oneM (by omega)) (by omega) HZ.out).mono ?_); rintro _ s4 ⟨rfl, z4⟩)
          | (go_at_call 44; (with_reducible refine (HCO.out _ (hx.trans (z2.trans (z3.trans z4)))).mono ?_); rintro e w2 ⟨rfl, hw2⟩; obtain rfl : s4 = w2 := hw2.symm))
        have hX4 : Ext w s4 := hx.trans (z2.trans (z3.trans z4))
        clear h2 h3 z2 z3 z4 hx
        go_loopw [8, 40] (fun rv iv wr => ∃ (c : Nat) (ts : List Fc), c ≤ C ∧ iv = .int .i64 c ∧ OwnF 34 w.heap.size w.heap.size wr rv ts (uptoQ f c) ∧ Ext w wr) (fun _ iv _ => C - (intOf iv).toNat)
        case atStart => exact ⟨0, [], Nat.zero_le _, rfl, OwnF.nil_ _ _ _ _, hX4⟩
        case round =>
          obtain ⟨c, ts, hc, rfl, hown, hy⟩ := hrel
          by_cases hcC : c < C
          · have HU := Lib.hid (uptoQ_length f c)
            have HOWN := Lib.hid hown
            have hcc1 : (0 : Int) ≤ (c : Int) := by omega
            have hcc2 : (c : Int) < (C : Int) := by omega
            obtain ⟨wo, hwo⟩ : ∃ wo, wo = wr := ⟨_, rfl⟩
            subst hwo
            clear hown
            go_wp2
            go_loopw [10, 45] (fun rv iv wr => ∃ (k : Nat) (ts : List Fc), k ≤ n ∧ iv = .int .i64 k ∧ Hid (wr.ownsRow wo.heap.size 34 3 rv k (fcells ts)) ∧ Hid (ts.length = k ∧ ∀ (j : Nat) (t : Fc), ts[j]? = some t → Ent K wo t.neg t.num t.den (M j c)) ∧ Ext wo wr) (fun _ iv _ => n - (intOf iv).toNat)
            case atStart => exact ⟨0, [], Nat.zero_le _, rfl, Lib.hid (World.ownsRow_nil _ _ _ _), Lib.hid ⟨rfl, by simp⟩, Below.refl _ _⟩
            case round =>
              obtain ⟨k, us, hk2, rfl, HO, HTS, hw⟩ := hrel
              by_cases hkN : k < n
              · obtain ⟨b', o', A5, cp5, rfl, hb5, hcell, hrow⟩ := (HV.out _ hy).at_ (k := k) hkN
                obtain ⟨b6, o6, ng, D1, p1, d1, D2, p2, d2, rfl, hb6, e0, e1, e2, he⟩ := hrow.at_ (k := c) hcC
                have hcell := (hw.cell (p := ⟨b', o' + k, none⟩) hb5).trans hcell
                have e0 := (hw.cell (p := ⟨b6, o6 + c * 3, none⟩) hb6).trans e0
                have e1 := (hw.cell (p := ⟨b6, o6 + c * 3 + 1, none⟩) hb6).trans e1
                have e2 := (hw.cell (p := ⟨b6, o6 + c * 3 + 2, none⟩) hb6).trans e2
                have HE0 := Lib.hid he
                have hi1 : (0 : Int) ≤ (k : Int) := by omega
                have hi2 : (k : Int) < (n : Int) := by omega
                clear he hrow
                go_wp2_with (at_builtin; refine wpList_append_mine _ (by rfl) (.tmp 49) (.tmp 54) 39 (by rfl) wo.heap.size 34 i0 (.agg #[.bool false, .slice none 0 0, .slice none 0 0]) 3 56 Try.underlying39 hi hz0 hz1 hz2 rfl (by omega) _ _ _ (by rfl) (HO.out.kept (Ext.grown (ext_alloc (Below.refl _ _) _)) (by cases u10.ownBlock <;> simp)) ⟨wr.heap.size, 0, none⟩ 1 1 [.bool ng, .slice D1 p1 d1, .slice D2 p2 d2] (by rfl) rfl (cell_three wr _ _ _ _) (by simp [Value.oneCell']) (by unfold maxLen; omega) (by omega) (by have := hw.size; simp; omega) ?_; intro v8 w8 ho8 hg8 hw8)
                rw [fcells_snoc us ⟨ng, .slice D1 p1 d1, .slice D2 p2 d2⟩] at ho8
                have hx8 : Ext wo w8 := Below.grown (Ext.trans hw (ext_alloc (Below.refl _ _) _)) hg8 (by have := hw.size; simp; omega) fun g hg => (HO.out.lt g hg).1
                have HT8 := Lib.hid (show (us ++ [(⟨ng, .slice D1 p1 d1, .slice D2 p2 d2⟩ : Fc)]).length = k + 1 ∧ ∀ (j : Nat) (t : Fc), (us ++ [(⟨ng, .slice D1 p1 d1, .slice D2 p2 d2⟩ : Fc)])[j]? = some t → Ent K wo t.neg t.num t.den (M j c) from ⟨by rw [List.length_append, HTS.out.1]; rfl, snoc_ent (t0 := ⟨ng, .slice D1 p1 d1, .slice D2 p2 d2⟩) (f := fun j => M j c) HTS.out.1 HTS.out.2 HE0.out⟩)
                have HO8 := Lib.hid ho8
                clear ho8 hg8 hw8
                go_roundw
                case rel => exact ⟨k + 1, _, by omega, by go_num, HO8, HT8, hx8⟩
                case measure => simp [intOf]; omega
              · obtain rfl : n = k := by omega
                have hkk2 : ¬ ((n : Int) < (n : Int)) := by omega
                have hE := ownsRow_efs (f := fun j => M j c) HO.out HTS.out.1 fun j t ht => (HTS.out.2 j t ht).below hw
                have HD := Lib.hid (mdot_n hE (HX.out _ (hy.trans hw)) (fun i hi => HB.out i hi c hcC) HFX.out hL3 hL (by omega))
                obtain ⟨A9, c9, rfl⟩ := own_form HO.out
                have hyw : Ext w wr := hy.trans hw
                have HOW2 := Lib.hid (HOWN.out.ext hw)
                clear hE HO HTS HOWN
                go_wp2_with (first
                  | (go_at_call 55; (with_reducible refine HD.out.mono ?_); rintro e w7 ⟨b7, A7, k7, c7, B7, l7, d7, rfl, h7, x7, n7, m7⟩; rw [← HF.out c] at h7)
                  | (at_builtin; refine wpList_append_mine _ (by rfl) (.tmp 57) (.tmp 61) 39 (by rfl) w.heap.size 34 i0 (.agg #[.bool false, .slice none 0 0, .slice none 0 0]) 3 56 Try.underlying39 hi hz0 hz1 hz2 rfl (by omega) _ _ _ (by rfl) (HOW2.out.ext (ext_alloc x7 _)).1.1 ⟨w7.heap.size, 0, none⟩ 1 1 [.bool b7, .slice A7 k7 c7, .slice B7 l7 d7] (by rfl) rfl (cell_three w7 _ _ _ _) (by simp [Value.oneCell']) (by rw [HU.out]; unfold maxLen; omega) (by rw [HU.out]; omega) (by have := hyw.size; have := x7.size; simp; omega) ?_; intro v8 w8 ho8 hg8 hw8))
                have hO8 : OwnF 34 w.heap.size w.heap.size w8 v8 (ts ++ [⟨b7, .slice A7 k7 c7, .slice B7 l7 d7⟩]) (uptoQ f (c + 1)) := by
                  rw [uptoQ_succ]; exact OwnF.grow (t := ⟨b7, .slice A7 k7 c7, .slice B7 l7 d7⟩) HOW2.out (ext_alloc x7 _) (h7.below (ext_alloc (Below.refl _ _) _)) (n7.mono (by simp)) (m7.mono (by simp)) hyw.size ho8 hg8 hw8
                have hx8 : Ext w w8 := OwnF.grow_ext HOW2.out hyw (ext_alloc x7 _) hg8
                clear ho8 hg8 hw8 HOW2 h7 x7 n7 m7
                go_roundw
                case rel => exact ⟨c + 1, _, by omega, by go_num, hO8, hx8⟩
                case measure => simp [intOf]; omega
          · obtain rfl : C = c := by omega
            have hcc : ¬ ((C : Int) < (C : Int)) := by omega
            obtain ⟨A9, c9, rfl, _, _⟩ := hown.fracs.form
            rw [uptoQ_length] at hown ⊢
            have h9 := EFs.of_fracs (hown.fracs)
            clear hown
            go_wp2
            go_ret2
            rw [hME.out.1, hME.out.2]
            exact ⟨_, _, rfl, h9, hy⟩
      · have hq1 : (z != 0) = true := by rw [bne_iff_ne]; exact fun h => hS1 (HST.out.2 h)
        have hq2 : ¬ z = 0 := fun h => hS1 (HST.out.2 h)
        have hME := Lib.hid (show mixE g n = 9 ∧ mixN g n C = 0 from ⟨by unfold mixE; rw [if_neg HNO.out, if_neg (by rw [← HSD.out]; exact hS1)], by unfold mixN; rw [if_pos (.inr (by rw [← HSD.out]; exact hS1))]⟩)
        clear hS1
        go_wp2_with (first
          | (go_at_call 65; (with_reducible refine (HSM.out _ (Below.refl _ _)).mono ?_); rintro _ s2 ⟨b2, A2, k2, c2, B2, l2, d2, rfl, h2, z2, _, _⟩)
          | (go_at_call 46; (with_reducible refine (fof_n (n := 1) (d := 1) (by omega) (by omega)).mono ?_); rw [one_firstM]; rintro _ s3 ⟨b3, A3, k3, c3, B3, l3, d3, rfl, h3, z3, _, _⟩)
          | (go_at_call 64; (with_reducible refine (cmp_e (FracV.any (h2.below z3) HSB.out (by omega)) (FracV.any h3 fb_oneM (by omega)) (by omega) HZ.out).mono ?_); rintro _ s4 ⟨rfl, z4⟩))
        go_ret2
        rw [hME.out.1, hME.out.2]
        exact GivesL.none ⟨rfl, hx.trans (z2.trans (z3.trans z4))⟩
set_option maxHeartbeats 4000000 in
theorem mmix_no {K : Bool} {v x : Value} {ls : List Nat} {m : Nat} {b : Nat → Rat} {w : World} (hv : LMat w v ls) (hx : EFs K w x m b) (hl : ¬ validL ls ∨ m ≠ ls.length) :
    Calls Try.prog 38 #[v, x] w (fun e w' => e = .returned (.tuple #[.slice none 0 0, .int .i64 1]) ∧ Ext w w') := by
  have HVA := Lib.hid (mvalid_l hv)
  obtain ⟨A, cap, rfl, hc1, hc2⟩ := hv.form
  obtain ⟨A0, c0, rfl, hc3, hc4⟩ := hx.form
  clear hv hx
  obtain ⟨b, hb⟩ : ∃ b, b = decide (validL ls) := ⟨_, rfl⟩
  rw [← hb] at HVA
  obtain ⟨c, hc⟩ : ∃ c, c = ls.length := ⟨_, rfl⟩
  rw [← hc] at hl hc1 HVA ⊢
  have hb' : b = true → ((m : Int) != (c : Int)) = true := fun h => by
    rcases hl with hl | hl
    · exact absurd (of_decide_eq_true (hb.symm.trans h)) hl
    · rw [bne_iff_ne]; omega
  clear hb hc hl
  go_enter Try.func38, Try.ntmps38
  cases b with
  | false =>
    clear hb'
    go_wp2_with (go_at_call 21; (with_reducible refine HVA.out.mono ?_); rintro e w1 ⟨rfl, x1⟩)
    go_ret2
    exact ⟨rfl, x1⟩
  | true =>
    have hm := hb' rfl
    have hm' : ¬ (m = c) := by rw [bne_iff_ne] at hm; omega
    clear hb'
    go_wp2_with (go_at_call 21; (with_reducible refine HVA.out.mono ?_); rintro e w1 ⟨rfl, x1⟩)
    go_ret2
    exact ⟨rfl, x1⟩

end Go.Proofs.Ytmfigiifflljpaa
