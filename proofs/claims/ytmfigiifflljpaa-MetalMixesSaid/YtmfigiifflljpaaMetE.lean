/- metal: dot, Times. -/
import Derived.Test.YtmfigiifflljpaaMetC
set_option linter.unusedVariables false
set_option linter.unusedSimpArgs false
set_option maxRecDepth 100000
namespace Go.Proofs.Ytmfigiifflljpaa
open Go.RowKit Num

/-- A box that is written in a loop: a canonical fraction. -/
def FIm (W wr : World) (b : Nat) (q : Rat) : Prop := ∃ c A k l A' k' l', FBox wr b (.bool c) (.slice A k l) (.slice A' k' l') ∧ FracV wr c (.slice A k l) (.slice A' k' l') q ∧ Ext W wr ∧ New W.heap.size (.slice A k l) ∧ New W.heap.size (.slice A' k' l')
theorem zero_firstM : ((0 : Int) : Rat) / ((1 : Int) : Rat) = 0 := by decide +kernel
theorem one_firstM : ((1 : Int) : Rat) / ((1 : Int) : Rat) = 1 := by decide +kernel
theorem fb_zeroM : FB (0 : Rat) 3 := by
  have h : FB (((0 : Int) : Rat) / ((1 : Int) : Rat)) 3 := fb_i64 (by omega) (by omega)
  rwa [zero_firstM] at h
theorem fb_oneM : FB (1 : Rat) 3 := by
  have h : FB (((1 : Int) : Rat) / ((1 : Int) : Rat)) 3 := fb_i64 (by omega) (by omega)
  rwa [one_firstM] at h
theorem sm_fb {f : Nat → Rat} {L : Nat} : ∀ {n : Nat}, (∀ k, k < n → FB (f k) L) → FB (sm f n) (3 + (L + 1) * n)
  | 0, _ => fb_zeroM.mono (by omega)
  | n + 1, h => by
    have h1 := sm_fb (n := n) fun k hk => h k (by omega)
    have h2 := FB.add h1 (h n (by omega)) (by omega)
    exact h2.mono (by rw [Nat.mul_succ]; omega)
theorem dot_fb {f g : Nat → Rat} {n L : Nat} (hf : ∀ k, k < n → FB (f k) L) (hg : ∀ k, k < n → FB (g k) L) (h1 : 1 ≤ L) (hL : L ≤ 100000) (hn : n ≤ 9) : ∀ k, k ≤ n → FB (dotR f g k) 1900000 := fun k hk => by
  have h := sm_fb (f := fun j => f j * g j) (L := L + L) (n := k) fun j hj => FB.mul (hf j (by omega)) (hg j (by omega)) h1
  exact h.mono (by
    have := Nat.mul_le_mul (show L + L + 1 ≤ 200001 by omega) (show k ≤ 9 by omega)
    omega)
theorem dot_succ (f g : Nat → Rat) (n : Nat) : dotR f g (n + 1) = dotR f g n + f n * g n := rfl

set_option maxHeartbeats 8000000 in
theorem mdot_n {K K' : Bool} {f g : Nat → Rat} {n L : Nat} {x y : Value} {w : World} (hx : EFs K w x n f) (hy : EFs K' w y n g) (hfx : ∀ k, k < n → FB (f k) L) (hfy : ∀ k, k < n → FB (g k) L) (hL3 : 3 ≤ L) (hL : L ≤ 100000) (hn : n ≤ 9) :
    Calls Try.prog 55 #[x, y] w (GivesF w (dotR f g n)) := by
  have HX := Lib.hid hfx
  have HY := Lib.hid hfy
  have HB := Lib.hid (dot_fb hfx hfy (by omega) hL hn)
  obtain ⟨A, c, rfl, hc1, hc2⟩ := hx.form
  obtain ⟨A0, c0, rfl, hc3, hc4⟩ := hy.form
  have HV := Lib.hid (fun (w' : World) (h : Ext w w') => hx.below h)
  have HU := Lib.hid (fun (w' : World) (h : Ext w w') => hy.below h)
  clear hx hy hfx hfy
  go_enter Try.func55, Try.ntmps55
  go_upto_region 1 with (fail)
  have hF0 := FBox.new w (.bool false) (.slice none 0 0) (.slice none 0 0) 34
  have x0 : Ext w (w.alloc (.cells #[.bool false, .slice none 0 0, .slice none 0 0] 34)) := ext_alloc (Below.refl _ _) _
  have hs0 : w.heap.size + 1 ≤ (w.alloc (.cells #[.bool false, .slice none 0 0, .slice none 0 0] 34)).heap.size := by simp
  generalize w.alloc (.cells #[.bool false, .slice none 0 0, .slice none 0 0] 34) = W0 at *
  have HF := Lib.hid (fun (w' : World) (h : Ext W0 w') => hF0.below h)
  have HE := Lib.hid x0
  have f0 : Ext W0 W0 := Below.refl _ _
  obtain ⟨r0, r1, r2, g0, g1, g2⟩ := hF0
  clear x0
  go_wp2_with fail
  refine (fof_n (n := 0) (d := 1) (by omega) (by omega)).mono ?_
  rintro e w6 ⟨b6, A6, k6, c6, A6', k6', c6', rfl, h6, y6, n6, n6'⟩
  rw [zero_firstM] at h6
  have hlo : W0.heap.size ≤ w6.heap.size := y6.size
  go_wp2
  have hG6 := FBox.new w6 (.bool b6) (.slice A6 k6 c6) (.slice A6' k6' c6') 34
  have Y6 : Ext W0 (w6.alloc (.cells #[.bool b6, .slice A6 k6 c6, .slice A6' k6' c6'] 34)) := ext_alloc y6 _
  have h6 := h6.below (ext_alloc (Below.refl _ _) (.cells #[.bool b6, .slice A6 k6 c6, .slice A6' k6' c6'] 34))
  have hsz6 : w6.heap.size < (w6.alloc (.cells #[.bool b6, .slice A6 k6 c6, .slice A6' k6' c6'] 34)).heap.size := by simp
  generalize w6.alloc (.cells #[.bool b6, .slice A6 k6 c6, .slice A6' k6' c6'] 34) = W6 at *
  generalize w6.heap.size = B6 at *
  go_loopw [10] (fun iv wr => ∃ k : Nat, k ≤ n ∧ iv = .int .i64 k ∧ FIm W0 wr B6 (dotR f g k)) (fun iv _ => n - (intOf iv).toNat)
  case atStart => exact ⟨0, Nat.zero_le _, rfl, b6, A6, k6, c6, A6', k6', c6', hG6, h6, Y6, n6, n6'⟩
  case round =>
    clear hG6 h6 Y6 n6 n6'
    obtain ⟨k, hk, rfl, cc, MA, mk, ml, MA', mk', ml', hM, vM, xM, nM, nM'⟩ := hrel
    have HM := Lib.hid (fun (w' : World) (h : Ext wr w') => hM.below h)
    have hMl := hM.lt
    obtain ⟨m0, m1, m2, gm0, gm1, gm2⟩ := hM
    by_cases hkl : k < n
    · have HMV := Lib.hid (fun (w' : World) (h : Ext wr w') => FracV.any (vM.below h) (HB.out k (by omega)) (by omega))
      have hX := xM
      clear vM
      obtain ⟨b, o, neg, A1, k1, c1, A2, k2, c2, rfl, hb, e0, e1, e2, fv⟩ := (HV.out _ (HE.out.trans xM)).at_ hkl
      obtain ⟨b', o', neg', A3, k3, c3, A4, k4, c4, rfl, hb', e3, e4, e5, fu⟩ := (HU.out _ (HE.out.trans xM)).at_ hkl
      have hi1 : (0 : Int) ≤ (k : Int) := by omega
      have hi2 : (k : Int) < (n : Int) := by omega
      have HFV := Lib.hid (fun (w' : World) (h : Ext wr w') => (fv.below h).any (HX.out k hkl) hL3 (by omega))
      have HFU := Lib.hid (fun (w' : World) (h : Ext wr w') => (fu.below h).any (HY.out k hkl) hL3 (by omega))
      have HFM := Lib.hid (FB.mul (HX.out k hkl) (HY.out k hkl) (by omega))
      have HS := Lib.hid (fun (w' : World) (h : Ext wr w') => (⟨⟨(h.cell (p := ⟨b, o + k * 3, none⟩) hb).trans e0, (h.cell (p := ⟨b, o + k * 3 + 1, none⟩) hb).trans e1, (h.cell (p := ⟨b, o + k * 3 + 2, none⟩) hb).trans e2⟩, ⟨(h.cell (p := ⟨b', o' + k * 3, none⟩) hb').trans e3, (h.cell (p := ⟨b', o' + k * 3 + 1, none⟩) hb').trans e4, (h.cell (p := ⟨b', o' + k * 3 + 2, none⟩) hb').trans e5⟩, (HM.out w' h).1, (HM.out w' h).2.1, (HM.out w' h).2.2.1⟩ : (w'.cell? ⟨b, o + k * 3, none⟩ = some (.bool neg) ∧ w'.cell? ⟨b, o + k * 3 + 1, none⟩ = some (.slice A1 k1 c1) ∧ w'.cell? ⟨b, o + k * 3 + 2, none⟩ = some (.slice A2 k2 c2)) ∧ (w'.cell? ⟨b', o' + k * 3, none⟩ = some (.bool neg') ∧ w'.cell? ⟨b', o' + k * 3 + 1, none⟩ = some (.slice A3 k3 c3) ∧ w'.cell? ⟨b', o' + k * 3 + 2, none⟩ = some (.slice A4 k4 c4)) ∧ w'.cell? ⟨B6, 0, none⟩ = some (.bool cc) ∧ w'.cell? ⟨B6, 1, none⟩ = some (.slice MA mk ml) ∧ w'.cell? ⟨B6, 2, none⟩ = some (.slice MA' mk' ml')))
      clear fv fu e0 e1 e2 e3 e4 e5 m0 m1 m2 gm0 gm1 gm2
      go_upto_region 5 with (fail)
      refine wp_region_G (fun w' => Ext wr w') [11] (by kernel_rfl) ?_
      have gS : Ext wr wr.drew := (Below.refl _ _).drew
      refine wpAnyG_take 0 (v := ?_) rfl (by kernel_rfl) (by kernel_rfl) (by kernel_rfl) (by kernel_rfl) (by rfl) (by kernel_rfl) (fun _ _ _ h => h) (by rfl) (fun w' hw' => ?_) gS ?_
      rotate_left
      focus (have hh := HS.out _ hw'; go_split_ands; go_simp; (try with_reducible rfl); done)
      (try simp only [Act.put, List.getElem_toArray, List.getElem_cons_succ, List.getElem_cons_zero, List.setIfInBounds_toArray, List.set_cons_zero, List.set_cons_succ])
      refine wpAnyG_take 1 (v := ?_) rfl (by kernel_rfl) (by kernel_rfl) (by kernel_rfl) (by kernel_rfl) (by rfl) (by kernel_rfl) (fun _ _ _ h => h) (by rfl) (fun w' hw' => ?_) gS ?_
      rotate_left
      focus (go_simp; (try with_reducible rfl); done)
      (try simp only [Act.put, List.getElem_toArray, List.getElem_cons_succ, List.getElem_cons_zero, List.setIfInBounds_toArray, List.set_cons_zero, List.set_cons_succ])
      refine wpAnyG_take 2 (v := ?_) rfl (by kernel_rfl) (by kernel_rfl) (by kernel_rfl) (by kernel_rfl) (by rfl) (by kernel_rfl) (fun _ _ _ h => h) (by rfl) (fun w' hw' => ?_) gS ?_
      rotate_left
      focus (go_simp; (try with_reducible rfl); done)
      (try simp only [Act.put, List.getElem_toArray, List.getElem_cons_succ, List.getElem_cons_zero, List.setIfInBounds_toArray, List.set_cons_zero, List.set_cons_succ])
      refine wpAnyG_take 3 (v := ?_) rfl (by kernel_rfl) (by kernel_rfl) (by kernel_rfl) (by kernel_rfl) (by rfl) (by kernel_rfl) (fun _ _ _ h => h) (by rfl) (fun w' hw' => ?_) gS ?_
      rotate_left
      focus (go_simp; (try with_reducible rfl); done)
      (try simp only [Act.put, List.getElem_toArray, List.getElem_cons_succ, List.getElem_cons_zero, List.setIfInBounds_toArray, List.set_cons_zero, List.set_cons_succ])
      refine wpAnyG_take 4 (v := ?_) rfl (by kernel_rfl) (by kernel_rfl) (by kernel_rfl) (by kernel_rfl) (by rfl) (by kernel_rfl) (fun _ _ _ h => h) (by rfl) (fun w' hw' => ?_) gS ?_
      rotate_left
      focus (have hh := HS.out _ hw'; go_split_ands; go_simp; (try with_reducible rfl); done)
      (try simp only [Act.put, List.getElem_toArray, List.getElem_cons_succ, List.getElem_cons_zero, List.setIfInBounds_toArray, List.set_cons_zero, List.set_cons_succ])
      refine wpAnyG_take 5 (v := ?_) rfl (by kernel_rfl) (by kernel_rfl) (by kernel_rfl) (by kernel_rfl) (by rfl) (by kernel_rfl) (fun _ _ _ h => h) (by rfl) (fun w' hw' => ?_) gS ?_
      rotate_left
      focus (go_simp; (try with_reducible rfl); done)
      (try simp only [Act.put, List.getElem_toArray, List.getElem_cons_succ, List.getElem_cons_zero, List.setIfInBounds_toArray, List.set_cons_zero, List.set_cons_succ])
      refine wpAnyG_take 6 (v := ?_) rfl (by kernel_rfl) (by kernel_rfl) (by kernel_rfl) (by kernel_rfl) (by rfl) (by kernel_rfl) (fun _ _ _ h => h) (by rfl) (fun w' hw' => ?_) gS ?_
      rotate_left
      focus (go_simp; (try with_reducible rfl); done)
      (try simp only [Act.put, List.getElem_toArray, List.getElem_cons_succ, List.getElem_cons_zero, List.setIfInBounds_toArray, List.set_cons_zero, List.set_cons_succ])
      refine wpAnyG_take 7 (v := ?_) rfl (by kernel_rfl) (by kernel_rfl) (by kernel_rfl) (by kernel_rfl) (by rfl) (by kernel_rfl) (fun _ _ _ h => h) (by rfl) (fun w' hw' => ?_) gS ?_
      rotate_left
      focus (go_simp; (try with_reducible rfl); done)
      (try simp only [Act.put, List.getElem_toArray, List.getElem_cons_succ, List.getElem_cons_zero, List.setIfInBounds_toArray, List.set_cons_zero, List.set_cons_succ])
      refine wpAnyG_take 8 (v := ?_) rfl (by kernel_rfl) (by kernel_rfl) (by kernel_rfl) (by kernel_rfl) (by rfl) (by kernel_rfl) (fun _ _ _ h => h) (by rfl) (fun w' hw' => ?_) gS ?_
      rotate_left
      focus (have hh := HS.out _ hw'; go_split_ands; go_simp; (try with_reducible rfl); done)
      (try simp only [Act.put, List.getElem_toArray, List.getElem_cons_succ, List.getElem_cons_zero, List.setIfInBounds_toArray, List.set_cons_zero, List.set_cons_succ])
      refine wpAnyG_one 9 (by kernel_rfl) rfl (by rfl) (fun K hK => ?_)
      (try simp only [List.getElem_toArray, List.getElem_cons_succ, List.getElem_cons_zero])
      go_simp
      go_at_call 49
      refine (mul_f (HFV.out _ gS) (HFU.out _ gS) (by omega)).mono ?_
      rintro _ s7 ⟨b7, A7, k7, c7, B7, l7, d7, rfl, h7, z7, n7, m7⟩
      have gS : Ext wr s7 := Ext.trans gS z7
      (try go_wp2_with fail)
      refine hK.out _ _ (fun _ => gS) ?_
      clear hK K
      (try simp only [Act.put, List.getElem_toArray, List.getElem_cons_succ, List.getElem_cons_zero, List.setIfInBounds_toArray, List.set_cons_zero, List.set_cons_succ])
      refine wpAnyG_one 10 (by kernel_rfl) rfl (by rfl) (fun K hK => ?_)
      (try simp only [List.getElem_toArray, List.getElem_cons_succ, List.getElem_cons_zero])
      go_simp
      have gQ := gS
      go_at_call 75
      refine (add_f (HMV.out _ gS) (FracV.any h7 HFM.out (by omega)) (HB.out k (by omega)) HFM.out (by omega)).mono ?_
      rintro _ s8 ⟨b8, A8, k8, c8, B8, l8, d8, rfl, h8, z8, n8, m8⟩
      have gS : Ext wr s8 := Ext.trans gS z8
      have gR := gS
      (try go_wp2_with fail)
      refine hK.out _ _ (fun _ => gS) ?_
      clear hK K
      (try simp only [Act.put, List.getElem_toArray, List.getElem_cons_succ, List.getElem_cons_zero, List.setIfInBounds_toArray, List.set_cons_zero, List.set_cons_succ])
      obtain ⟨m0, m1, m2, gm0, gm1, gm2⟩ := HM.out _ gS
      refine wpAnyG_one 11 (by kernel_rfl) rfl (by rfl) (fun K hK => ?_)
      (try simp only [List.getElem_toArray, List.getElem_cons_succ, List.getElem_cons_zero])
      go_simp
      refine hK.out _ _ (fun h => absurd h (by decide)) ?_
      clear hK K
      (try simp only [Act.put, List.getElem_toArray, List.getElem_cons_succ, List.getElem_cons_zero, List.setIfInBounds_toArray, List.set_cons_zero, List.set_cons_succ])
      refine wpAnyG_done (by kernel_rfl) ?_ _
      go_wp2
      go_roundw
      case rel => exact ⟨k + 1, by omega, by go_num, b8, A8, k8, c8, B8, l8, d8, (HM.out _ gR).put _ _ _, FracV.put h8 n8 m8 (by have := gQ.size; omega) _ _ _, ext_put (hX.trans gR) (by omega) _ _ _, n8.mono (by have := hX.size; have := gQ.size; omega), m8.mono (by have := hX.size; have := gQ.size; omega)⟩
      case measure => simp [intOf]; omega
    · obtain rfl : n = k := by omega
      have hkk : ¬ ((n : Int) < (n : Int)) := by omega
      obtain ⟨r0, r1, r2, g0, g1, g2⟩ := HF.out _ xM
      go_wp2
      obtain ⟨q0, q1, q2⟩ := set3 r0 r1 r2 (.bool cc) (.slice MA mk ml) (.slice MA' mk' ml')
      refine bodyPost_ret (v := .agg #[.bool cc, .slice MA mk ml, .slice MA' mk' ml']) (by simp [results, Try.results55, go_sem, q0, q1, q2]) rfl ?_
      exact GivesF.box (B := w.heap.size) (HE.out.trans xM) vM (nM.mono (by omega)) (nM'.mono (by omega)) (Nat.le_refl _)

/-- A list of fractions and an error code. -/
def GivesL (w : World) (n : Nat) (f : Nat → Rat) (er : Int) (e : Ending) (w' : World) : Prop :=
  ∃ A c, e = .returned (.tuple #[.slice A n c, .int .i64 er]) ∧ EFs true w' (.slice A n c) n f ∧ Ext w w'

set_option maxHeartbeats 8000000 in
theorem mtimes_ok {K K' : Bool} {v x : Value} {n C L : Nat} {M : Mx} {g : Nat → Rat} {w : World} (hv : EMat K w v n C M) (hx : EFs K' w x C g) (hfb : FBm M n C L) (hfx : ∀ k, k < C → FB (g k) L) (hL3 : 3 ≤ L) (hL : L ≤ 100000) (hn : n ≤ 8) (hC : C ≤ 8) (hz : n = 0 → C = 0) :
    Calls Try.prog 27 #[v, x] w (GivesL w n (fun i => dotR (M i) g C) 0) := by
  have HVA := Lib.hid (hv.valid hn hC)
  have HCO := Lib.hid (fun (w' : World) (h : Ext w w') => (hv.below h).cols hz)
  have HB := Lib.hid (fun i (hi : i < n) j (hj : j < C) => hfb i j hi hj)
  have HFX := Lib.hid hfx
  have HV := Lib.hid (fun (w' : World) (h : Ext w w') => hv.below h)
  have HX := Lib.hid (fun (w' : World) (h : Ext w w') => hx.below h)
  obtain ⟨A, cap, rfl, hc1, hc2⟩ := hv.form
  obtain ⟨A0, c0, rfl, hc3, hc4⟩ := hx.form
  obtain ⟨i0, hi, hz0, hz1, hz2⟩ := info_parts info_frac
  have hCC : ((C : Int) != (C : Int)) = false := by simp
  obtain ⟨f, hf⟩ : ∃ f : Nat → Rat, f = fun i => dotR (M i) g C := ⟨_, rfl⟩
  have HF := Lib.hid (fun i => congrFun hf i)
  rw [← hf]
  clear hv hx hfb hfx hz hf
  go_enter Try.func27, Try.ntmps27
  go_wp2_with (first
    | (go_at_call 21; (with_reducible refine HVA.out.mono ?_); rintro e w1 ⟨rfl, x1⟩)
    | (go_at_call 44; (with_reducible refine (HCO.out _ x1).mono ?_); rintro e w2 ⟨rfl, hw2⟩; obtain rfl : w1 = w2 := hw2.symm))
  go_loopw [6, 21] (fun rv iv wr => ∃ (k : Nat) (ts : List Fc), k ≤ n ∧ iv = .int .i64 k ∧ OwnF 34 w.heap.size w.heap.size wr rv ts (uptoQ f k) ∧ Ext w wr) (fun _ iv _ => n - (intOf iv).toNat)
  case atStart => exact ⟨0, [], Nat.zero_le _, rfl, OwnF.nil_ _ _ _ _, x1⟩
  case round =>
    obtain ⟨k, ts, hk, rfl, hown, hy⟩ := hrel
    by_cases hkn : k < n
    · obtain ⟨b, o, A1, cp1, rfl, hb, hcell, hrow⟩ := (HV.out _ hy).at_ hkn
      have HD := Lib.hid (mdot_n hrow (HX.out _ hy) (HB.out k hkn) HFX.out hL3 hL (by omega))
      have HU := Lib.hid (uptoQ_length f k)
      have HOWN := Lib.hid hown
      have hi1 : (0 : Int) ≤ (k : Int) := by omega
      have hi2 : (k : Int) < (n : Int) := by omega
      clear hown hrow
      go_wp2_with (first
        | (go_at_call 55; (with_reducible refine HD.out.mono ?_); rintro e w7 ⟨b7, A7, k7, c7, B7, l7, d7, rfl, h7, x7, n7, m7⟩; rw [← HF.out k] at h7)
        | (at_builtin; refine wpList_append_mine _ (by rfl) (.tmp 25) (.tmp 29) 39 (by rfl) w.heap.size 34 i0 (.agg #[.bool false, .slice none 0 0, .slice none 0 0]) 3 56 Try.underlying39 hi hz0 hz1 hz2 rfl (by omega) _ _ _ (by rfl) (HOWN.out.ext (ext_alloc x7 _)).1.1 ⟨w7.heap.size, 0, none⟩ 1 1 [.bool b7, .slice A7 k7 c7, .slice B7 l7 d7] (by rfl) rfl (cell_three w7 _ _ _ _) (by simp [Value.oneCell']) (by rw [HU.out]; unfold maxLen; omega) (by rw [HU.out]; omega) (by have := hy.size; have := x7.size; simp; omega) ?_; intro v8 w8 ho8 hg8 hw8))
      have hO8 : OwnF 34 w.heap.size w.heap.size w8 v8 (ts ++ [⟨b7, .slice A7 k7 c7, .slice B7 l7 d7⟩]) (uptoQ f (k + 1)) := by
        rw [uptoQ_succ]; exact OwnF.grow (t := ⟨b7, .slice A7 k7 c7, .slice B7 l7 d7⟩) HOWN.out (ext_alloc x7 _) (h7.below (ext_alloc (Below.refl _ _) _)) (n7.mono (by simp)) (m7.mono (by simp)) hy.size ho8 hg8 hw8
      have hx8 : Ext w w8 := OwnF.grow_ext HOWN.out hy (ext_alloc x7 _) hg8
      clear ho8 hg8 hw8 HOWN h7 x7 n7 m7
      go_roundw
      case rel => exact ⟨k + 1, _, by omega, by go_num, hO8, hx8⟩
      case measure => simp [intOf]; omega
    · obtain rfl : n = k := by omega
      have hkk : ¬ ((n : Int) < (n : Int)) := by omega
      obtain ⟨A9, c9, rfl, _, _⟩ := hown.fracs.form
      rw [uptoQ_length] at hown ⊢
      have h9 := EFs.of_fracs (hown.fracs)
      clear hown
      go_wp2
      go_ret2
      exact ⟨_, _, rfl, h9, hy⟩
set_option maxHeartbeats 4000000 in
theorem mtimes_no {K : Bool} {v x : Value} {ls : List Nat} {m : Nat} {g : Nat → Rat} {w : World} (hv : LMat w v ls) (hx : EFs K w x m g) (hl : ¬ validL ls ∨ m ≠ ls.headD 0) :
    Calls Try.prog 27 #[v, x] w (fun e w' => e = .returned (.tuple #[.slice none 0 0, .int .i64 1]) ∧ Ext w w') := by
  have HVA := Lib.hid (mvalid_l hv)
  have HCO := Lib.hid (fun (w' : World) (h : Ext w w') => mcols_l (hv.below h))
  obtain ⟨A, cap, rfl, hc1, hc2⟩ := hv.form
  obtain ⟨A0, c0, rfl, hc3, hc4⟩ := hx.form
  clear hv hx
  obtain ⟨c, hc⟩ : ∃ c, c = ls.headD 0 := ⟨_, rfl⟩
  rw [← hc] at hl HCO
  obtain ⟨b, hb⟩ : ∃ b, b = decide (validL ls) := ⟨_, rfl⟩
  rw [← hb] at HVA
  have hb' : b = true → ((m : Int) != (c : Int)) = true := fun h => by
    rcases hl with hl | hl
    · exact absurd (of_decide_eq_true (hb.symm.trans h)) hl
    · rw [bne_iff_ne]; omega
  clear hb hc hl
  go_enter Try.func27, Try.ntmps27
  cases b with
  | false =>
    clear hb'
    go_wp2_with (go_at_call 21; (with_reducible refine HVA.out.mono ?_); rintro e w1 ⟨rfl, x1⟩)
    go_ret2
    exact ⟨rfl, x1⟩
  | true =>
    have hm := hb' rfl
    have hm' : ¬ (m = c) := by rw [bne_iff_ne] at hm; omega
    clear hb'
    go_wp2_with (first
      | (go_at_call 21; (with_reducible refine HVA.out.mono ?_); rintro e w1 ⟨rfl, x1⟩)
      | (go_at_call 44; (with_reducible refine (HCO.out _ x1).mono ?_); rintro e w2 ⟨rfl, hw2⟩; obtain rfl : w1 = w2 := hw2.symm))
    go_ret2
    exact ⟨rfl, x1⟩

end Go.Proofs.Ytmfigiifflljpaa
