/- sampling: Enough. sampling: Enough's errors. sampling: Enough's answers, case by case. -/
import Derived.Test.YtnedgbebajhcpaaGreatDoorSamV
set_option linter.unusedVariables false
set_option linter.unusedSimpArgs false
set_option maxRecDepth 100000
namespace Go.Proofs.YtnedgbebajhcpaaGreatDoor
open Go.RowKit Num

theorem AnyF.fbS {w : World} {b : Bool} {s t : Value} {q : Rat} {L : Nat} (h : AnyF w b s t q L) (hL : 1 ≤ L) : FB q L := by
  obtain ⟨n, d, _, _, rfl, h1, h2⟩ := h
  exact frac_fb h1 h2 hL
/-- The first number below k of which p holds, or k. -/
def firstN (p : Nat → Bool) : Nat → Nat
  | 0 => 0
  | k + 1 => if firstN p k < k then firstN p k else if p k then k else k + 1
theorem firstN_none {p : Nat → Bool} {k : Nat} (h : firstN p k = k) (hp : p k = false) : firstN p (k + 1) = k + 1 := by
  show (if firstN p k < k then firstN p k else if p k then k else k + 1) = _
  rw [h, hp, if_neg (by omega)]
  rfl
theorem firstN_some {p : Nat → Bool} {k : Nat} (h : firstN p k = k) (hp : p k = true) : ∀ j, firstN p (k + 1 + j) = k
  | 0 => by
    show (if firstN p k < k then firstN p k else if p k then k else k + 1) = _
    rw [h, hp, if_neg (by omega)]
    rfl
  | j + 1 => by
    show (if firstN p (k + 1 + j) < k + 1 + j then firstN p (k + 1 + j) else _) = _
    rw [firstN_some h hp j, if_pos (by omega)]
/-- So many specimens show the share q. -/
def enP (D : Nat) (q : Rat) (n : Nat) : Bool := decide (0 ≤ cmpQ (meanQ n D) (q * (((D : Int) : Rat) / ((1 : Int) : Rat))))
def enN (D : Nat) (q : Rat) : Nat := firstN (enP D q) 31
/-- From 0 to 1. -/
def ShareIn (q : Rat) : Prop := ¬ sgnQ q < 0 ∧ ¬ 0 < cmpQ q one1
theorem first_le {p : Nat → Bool} : ∀ k, firstN p k ≤ k
  | 0 => Nat.le_refl _
  | k + 1 => by
    have h : firstN p (k + 1) = if firstN p k < k then firstN p k else if p k then k else k + 1 := rfl
    have := first_le (p := p) k
    rw [h]
    split
    · omega
    · split <;> omega

set_option maxHeartbeats 8000000 in
theorem senough_ok {D : Nat} {b : Bool} {s t : Value} {q : Rat} {L : Nat} {w : World} (hx : AnyF w b s t q L) (hL1 : 1 ≤ L) (hL : L ≤ 1000) (hq : ShareIn q) (hD1 : 1 ≤ D) (hD : D ≤ 60) (ht : Tab10 w) :
    Calls Tryz.prog 15 #[.int .i64 D, .agg #[.bool b, s, t]] w (fun e w' => e = .returned (.tuple #[.int .i64 (if enN D q < 31 then ((enN D q : Nat) : Int) else 0), .int .i64 (if enN D q < 31 then 0 else 7)]) ∧ Ext w w') := by
  have HT := Lib.hid (fun (w' : World) (h : Ext w w') => ht.ext h)
  have HX := Lib.hid (fun (w' : World) (h : Ext w w') => hx.below h)
  have HFQ := Lib.hid (hx.fbS hL1)
  obtain ⟨z1, hz1⟩ : ∃ z, sgnQ q = z := ⟨_, rfl⟩
  obtain ⟨z2, hz2⟩ : ∃ z, cmpQ q one1 = z := ⟨_, rfl⟩
  have e1 : decide (z1 < 0) = false := decide_eq_false (by rw [← hz1]; exact hq.1)
  have e2 : decide (0 < z2) = false := decide_eq_false (by rw [← hz2]; exact hq.2)
  have HZ1 := Lib.hid hz1
  have HZ2 := Lib.hid hz2
  obtain ⟨P, hP⟩ : ∃ P, P = enP D q := ⟨_, rfl⟩
  have HPP := Lib.hid hP
  obtain ⟨vn, hvn⟩ : ∃ v : Int, (if enN D q < 31 then ((enN D q : Nat) : Int) else 0) = v := ⟨_, rfl⟩
  obtain ⟨ve, hve⟩ : ∃ v : Int, (if enN D q < 31 then (0 : Int) else 7) = v := ⟨_, rfl⟩
  rw [hvn, hve]
  have HVN := Lib.hid hvn
  have HVE := Lib.hid hve
  have HP31 := Lib.hid (show enN D q = firstN P 31 from by rw [hP]; rfl)
  clear ht hx hz1 hz2 hq hP hvn hve
  go_enter Tryz.func15, Tryz.ntmps15
  go_upto_region 1 with (fail)
  have hB0 := FBox.new w (.bool b) (s) (t) 27
  have x0 : Ext w (w.alloc (.cells #[.bool b, s, t] 27)) := ext_alloc (Below.refl _ _) _
  have hs0 : w.heap.size + 1 ≤ (w.alloc (.cells #[.bool b, s, t] 27)).heap.size := by simp
  generalize (w.alloc (.cells #[.bool b, s, t] 27)) = W0 at *
  have HB0 := Lib.hid (fun (w' : World) (h : Ext W0 w') => hB0.below h)
  obtain ⟨c00, c01, c02, d00, d01, d02⟩ := hB0
  have HE := Lib.hid x0
  clear x0
  have f0 : Ext W0 W0 := Below.refl _ _
  have HS := Lib.hid (fun (w' : World) (h : Ext W0 w') => (⟨(HB0.out _ h).1, (HB0.out _ h).2.1, (HB0.out _ h).2.2.1⟩ : w'.cell? ⟨w.heap.size, 0, none⟩ = some (.bool b) ∧ w'.cell? ⟨w.heap.size, 1, none⟩ = some s ∧ w'.cell? ⟨w.heap.size, 2, none⟩ = some t))
  refine wp_region_G (fun w' => Ext W0 w') [9] (by kernel_rfl) ?_
  have gS : Ext W0 W0.drew := (Below.refl _ _).drew
  refine wpAnyG_take 0 (v := ?_) rfl (by kernel_rfl) (by kernel_rfl) (by kernel_rfl) (by kernel_rfl) (by rfl) (by kernel_rfl) (fun _ _ _ h => h) (by rfl) (fun w' hw' => ?_) gS ?_
  rotate_left
  focus (have hh := HS.out _ hw'; go_split_ands; go_simp; (try with_reducible rfl); done)
  (try simp only [Act.put, List.getElem_toArray, List.getElem_cons_succ, List.getElem_cons_zero, List.setIfInBounds_toArray, List.set_cons_zero, List.set_cons_succ])
  refine wpAnyG_one 1 (by kernel_rfl) rfl (by rfl) (fun K hK => ?_)
  go_simp
  go_at_call 38
  refine (sign_e (HX.out _ (HE.out.trans gS)) HZ1.out).mono ?_
  rintro _ s1 ⟨rfl, y1⟩
  have gS : Ext W0 s1 := Ext.trans gS y1
  (try go_wp2_with fail)
  refine hK.out _ _ (fun _ => gS) ?_
  clear hK K
  (try simp only [Act.put, List.getElem_toArray, List.getElem_cons_succ, List.getElem_cons_zero, List.setIfInBounds_toArray, List.set_cons_zero, List.set_cons_succ])
  refine wpAnyG_take 2 (v := ?_) rfl (by kernel_rfl) (by kernel_rfl) (by kernel_rfl) (by kernel_rfl) (by rfl) (by kernel_rfl) (fun _ _ _ h => h) (by rfl) (fun w' hw' => ?_) gS ?_
  rotate_left
  focus (go_simp; (try with_reducible rfl); done)
  (try simp only [Act.put, List.getElem_toArray, List.getElem_cons_succ, List.getElem_cons_zero, List.setIfInBounds_toArray, List.set_cons_zero, List.set_cons_succ])
  refine wpAnyG_take 3 (v := ?_) rfl (by kernel_rfl) (by kernel_rfl) (by kernel_rfl) (by kernel_rfl) (by rfl) (by kernel_rfl) (fun _ _ _ h => h) (by rfl) (fun w' hw' => ?_) gS ?_
  rotate_left
  focus (go_simp; (try with_reducible rfl); done)
  (try simp only [Act.put, List.getElem_toArray, List.getElem_cons_succ, List.getElem_cons_zero, List.setIfInBounds_toArray, List.set_cons_zero, List.set_cons_succ])
  refine wpAnyG_take 4 (v := ?_) rfl (by kernel_rfl) (by kernel_rfl) (by kernel_rfl) (by kernel_rfl) (by rfl) (by kernel_rfl) (fun _ _ _ h => h) (by rfl) (fun w' hw' => ?_) gS ?_
  rotate_left
  focus (have hh := HS.out _ hw'; go_split_ands; go_simp; (try with_reducible rfl); done)
  (try simp only [Act.put, List.getElem_toArray, List.getElem_cons_succ, List.getElem_cons_zero, List.setIfInBounds_toArray, List.set_cons_zero, List.set_cons_succ])
  refine wpAnyG_one 5 (by kernel_rfl) rfl (by rfl) (fun K hK => ?_)
  go_simp
  go_at_call 28
  refine (fof_n (n := 1) (d := 1) (by omega) (by omega)).mono ?_
  rintro _ s3 ⟨b3, A3, k3, c3, B3, l3, d3, rfl, h3, y3, _, _⟩
  have h3 : FracV s3 b3 (.slice A3 k3 c3) (.slice B3 l3 d3) one1 := h3
  have gS : Ext W0 s3 := Ext.trans gS y3
  (try go_wp2_with fail)
  refine hK.out _ _ (fun _ => gS) ?_
  clear hK K
  (try simp only [Act.put, List.getElem_toArray, List.getElem_cons_succ, List.getElem_cons_zero, List.setIfInBounds_toArray, List.set_cons_zero, List.set_cons_succ])
  refine wpAnyG_one 6 (by kernel_rfl) rfl (by rfl) (fun K hK => ?_)
  go_simp
  go_at_call 32
  refine (cmp_e (HX.out _ (HE.out.trans gS)) (FracV.any h3 one1_fb (by omega)) (by omega) HZ2.out).mono ?_
  rintro _ s4 ⟨rfl, y4⟩
  have gS : Ext W0 s4 := Ext.trans gS y4
  have f4 := gS
  (try go_wp2_with fail)
  refine hK.out _ _ (fun _ => gS) ?_
  clear hK K
  (try simp only [Act.put, List.getElem_toArray, List.getElem_cons_succ, List.getElem_cons_zero, List.setIfInBounds_toArray, List.set_cons_zero, List.set_cons_succ])
  refine wpAnyG_take 7 (v := ?_) rfl (by kernel_rfl) (by kernel_rfl) (by kernel_rfl) (by kernel_rfl) (by rfl) (by kernel_rfl) (fun _ _ _ h => h) (by rfl) (fun w' hw' => ?_) gS ?_
  rotate_left
  focus (go_simp; (try with_reducible rfl); done)
  (try simp only [Act.put, List.getElem_toArray, List.getElem_cons_succ, List.getElem_cons_zero, List.setIfInBounds_toArray, List.set_cons_zero, List.set_cons_succ])
  refine wpAnyG_take 8 (v := ?_) rfl (by kernel_rfl) (by kernel_rfl) (by kernel_rfl) (by kernel_rfl) (by rfl) (by kernel_rfl) (fun _ _ _ h => h) (by rfl) (fun w' hw' => ?_) gS ?_
  rotate_left
  focus (go_simp; (try with_reducible rfl); done)
  (try simp only [Act.put, List.getElem_toArray, List.getElem_cons_succ, List.getElem_cons_zero, List.setIfInBounds_toArray, List.set_cons_zero, List.set_cons_succ])
  refine wpAnyG_one 9 (by kernel_rfl) rfl (by rfl) (fun K hK => ?_)
  (try simp only [List.getElem_toArray, List.getElem_cons_succ, List.getElem_cons_zero])
  go_simp
  refine hK.out _ _ (fun h => absurd h (by decide)) ?_
  clear hK K
  (try simp only [Act.put, List.getElem_toArray, List.getElem_cons_succ, List.getElem_cons_zero, List.setIfInBounds_toArray, List.set_cons_zero, List.set_cons_succ])
  refine wpAnyG_done (by kernel_rfl) ?_ _
  clear h3 HS
  go_upto_region 5 with (go_at_call 19; (with_reducible refine (swithin_t (n := (D : Int)) (by omega) (by omega)).mono ?_); rintro e w9 ⟨rfl, hw9⟩; obtain rfl : s4 = w9 := hw9.symm)
  go_wp2
  go_loopw [23] (fun iv wr => ∃ n : Nat, n ≤ 31 ∧ iv = .int .i64 n ∧ Hid (firstN P n = n) ∧ Ext s4 wr) (fun iv _ => 31 - (intOf iv).toNat)
  case atStart => exact ⟨0, by omega, rfl, Lib.hid rfl, Below.refl _ _⟩
  case round =>
    obtain ⟨n, hn, rfl, hf, hx⟩ := hrel
    have XR : Ext W0 wr := f4.trans hx
    obtain ⟨c00, c01, c02, _, _, _⟩ := HB0.out _ XR
    by_cases hn30 : n < 31
    · have hb1 : (n : Int) < 31 := by omega
      have hwn : IntKind.i64.wrap ((n : Int) + 1) = (n : Int) + 1 := wrap_in (by omega)
      obtain ⟨dq, hdq⟩ : ∃ x : Rat, x = ((D : Int) : Rat) / ((1 : Int) : Rat) := ⟨_, rfl⟩
      obtain ⟨mq, hmq⟩ : ∃ x : Rat, x = meanQ n D := ⟨_, rfl⟩
      have HOF := Lib.hid (fun (w' : World) => (show Calls Tryz.prog 28 #[.int .i64 D, .int .i64 1] w' (GivesF w' dq) from by rw [hdq]; exact fof_n (n := (D : Int)) (d := 1) (by omega) (by omega)))
      have HMN := Lib.hid (fun (w' : World) (h : Ext w w') => (show Calls Tryz.prog 20 #[.int .i64 n, .int .i64 D] w' (GivesFE w' mq) from by rw [hmq]; exact omean_ok (n := n) (D := D) (by omega) hD1 hD (HT.out _ h)))
      have HFM := Lib.hid (show FB mq 38 from by rw [hmq]; exact meanQ_fb (n := n) (D := D) (by omega) hD1 hD)
      have HFD := Lib.hid (show FB dq 3 from by rw [hdq]; exact fb_i64 (by omega) (by omega))
      have HFR := Lib.hid (FB.mul HFQ.out HFD.out hL1)
      obtain ⟨z, hz⟩ : ∃ z, cmpQ mq (q * dq) = z := ⟨_, rfl⟩
      have HZ := Lib.hid hz
      have HEP := Lib.hid (show P n = decide (0 ≤ z) from by rw [HPP.out]; unfold enP; rw [← hdq, ← hmq, hz])
      have HFN := Lib.hid hf.out
      clear hz hf hdq hmq
      go_wp2_with fail
      refine (HMN.out _ (HE.out.trans XR)).mono ?_
      rintro e w1 ⟨b1, A1, k1, c1, A1', k1', c1', rfl, h1, y1, n1, n1'⟩
      clear n1 n1'
      go_upto_region 9 with (fail)
      have hG1 := FBox.new w1 (.bool b1) (.slice A1 k1 c1) (.slice A1' k1' c1') 27
      have Y1 : Ext wr (w1.alloc (.cells #[.bool b1, .slice A1 k1 c1, .slice A1' k1' c1'] 27)) := ext_alloc y1 _
      have h1 := h1.below (ext_alloc (Below.refl _ _) (.cells #[.bool b1, .slice A1 k1 c1, .slice A1' k1' c1'] 27))
      have hsz1 : w1.heap.size < (w1.alloc (.cells #[.bool b1, .slice A1 k1 c1, .slice A1' k1' c1'] 27)).heap.size := by simp
      generalize w1.alloc (.cells #[.bool b1, .slice A1 k1 c1, .slice A1' k1' c1'] 27) = W1 at *
      generalize w1.heap.size = B1 at *
      have HG1 := Lib.hid (fun (w' : World) (h : Ext W1 w') => hG1.below h)
      have HP1 := Lib.hid (fun (w' : World) (h : Ext W1 w') => FracV.any (h1.below h) (HFM.out) (by omega))
      have HB1 := Lib.hid (fun (w' : World) (h : Ext W1 w') => h1.below h)
      clear hG1 h1 y1 hsz1
      have HS := Lib.hid (fun (w' : World) (h : Ext W1 w') => (⟨⟨(HG1.out _ h).1, (HG1.out _ h).2.1, (HG1.out _ h).2.2.1⟩, (HB0.out _ (XR.trans (Y1.trans h))).1, (HB0.out _ (XR.trans (Y1.trans h))).2.1, (HB0.out _ (XR.trans (Y1.trans h))).2.2.1⟩ : (w'.cell? ⟨B1, 0, none⟩ = some (.bool b1) ∧ w'.cell? ⟨B1, 1, none⟩ = some (.slice A1 k1 c1) ∧ w'.cell? ⟨B1, 2, none⟩ = some (.slice A1' k1' c1')) ∧ w'.cell? ⟨w.heap.size, 0, none⟩ = some (.bool b) ∧ w'.cell? ⟨w.heap.size, 1, none⟩ = some s ∧ w'.cell? ⟨w.heap.size, 2, none⟩ = some t))
      by_cases hzz : 0 ≤ z
      · have e3 : decide (0 ≤ z) = true := decide_eq_true hzz
        have HEN := Lib.hid (show enN D q = n from by
          have h := firstN_some (p := P) HFN.out (by rw [HEP.out]; exact e3) (30 - n)
          rw [show n + 1 + (30 - n) = 31 from by omega] at h
          rw [HP31.out]
          exact h)
        have hv1 : vn = (n : Int) := by rw [← HVN.out, HEN.out, if_pos hn30]
        have hv2 : ve = 0 := by rw [← HVE.out, HEN.out, if_pos hn30]
        subst hv1 hv2
        refine wp_region_G (fun w' => Ext W1 w') [6] (by kernel_rfl) ?_
        have gS : Ext W1 W1.drew := (Below.refl _ _).drew
        refine wpAnyG_take 0 (v := ?_) rfl (by kernel_rfl) (by kernel_rfl) (by kernel_rfl) (by kernel_rfl) (by rfl) (by kernel_rfl) (fun _ _ _ h => h) (by rfl) (fun w' hw' => ?_) gS ?_
        rotate_left
        focus (have hh := HS.out _ hw'; go_split_ands; go_simp; (try with_reducible rfl); done)
        (try simp only [Act.put, List.getElem_toArray, List.getElem_cons_succ, List.getElem_cons_zero, List.setIfInBounds_toArray, List.set_cons_zero, List.set_cons_succ])
        refine wpAnyG_take 1 (v := ?_) rfl (by kernel_rfl) (by kernel_rfl) (by kernel_rfl) (by kernel_rfl) (by rfl) (by kernel_rfl) (fun _ _ _ h => h) (by rfl) (fun w' hw' => ?_) gS ?_
        rotate_left
        focus (have hh := HS.out _ hw'; go_split_ands; go_simp; (try with_reducible rfl); done)
        (try simp only [Act.put, List.getElem_toArray, List.getElem_cons_succ, List.getElem_cons_zero, List.setIfInBounds_toArray, List.set_cons_zero, List.set_cons_succ])
        refine wpAnyG_take 2 (v := ?_) rfl (by kernel_rfl) (by kernel_rfl) (by kernel_rfl) (by kernel_rfl) (by rfl) (by kernel_rfl) (fun _ _ _ h => h) (by rfl) (fun w' hw' => ?_) gS ?_
        rotate_left
        focus (go_simp; (try with_reducible rfl); done)
        (try simp only [Act.put, List.getElem_toArray, List.getElem_cons_succ, List.getElem_cons_zero, List.setIfInBounds_toArray, List.set_cons_zero, List.set_cons_succ])
        refine wpAnyG_one 3 (by kernel_rfl) rfl (by rfl) (fun K hK => ?_)
        go_simp
        go_at_call 28
        refine (HOF.out _).mono ?_
        rintro _ s5 ⟨b5, A5, k5, c5, B5, l5, d5, rfl, h5, y5, _, _⟩
        have gS : Ext W1 s5 := Ext.trans gS y5
        (try go_wp2_with fail)
        refine hK.out _ _ (fun _ => gS) ?_
        clear hK K
        (try simp only [Act.put, List.getElem_toArray, List.getElem_cons_succ, List.getElem_cons_zero, List.setIfInBounds_toArray, List.set_cons_zero, List.set_cons_succ])
        refine wpAnyG_one 4 (by kernel_rfl) rfl (by rfl) (fun K hK => ?_)
        go_simp
        go_at_call 39
        refine (mul_f (HX.out _ (HE.out.trans (XR.trans (Y1.trans gS)))) (FracV.any h5 HFD.out (by omega)) (by omega)).mono ?_
        rintro _ s6 ⟨b6, A6, k6, c6, B6, l6, d6, rfl, h6, y6, _, _⟩
        have gS : Ext W1 s6 := Ext.trans gS y6
        (try go_wp2_with fail)
        refine hK.out _ _ (fun _ => gS) ?_
        clear hK K
        (try simp only [Act.put, List.getElem_toArray, List.getElem_cons_succ, List.getElem_cons_zero, List.setIfInBounds_toArray, List.set_cons_zero, List.set_cons_succ])
        refine wpAnyG_one 5 (by kernel_rfl) rfl (by rfl) (fun K hK => ?_)
        go_simp
        go_at_call 32
        refine (cmp_e (HP1.out _ gS) (FracV.any h6 HFR.out (by omega)) (by omega) HZ.out).mono ?_
        rintro _ s7 ⟨rfl, y7⟩
        have gS : Ext W1 s7 := Ext.trans gS y7
        have f7 := gS
        (try go_wp2_with fail)
        refine hK.out _ _ (fun _ => gS) ?_
        clear hK K
        (try simp only [Act.put, List.getElem_toArray, List.getElem_cons_succ, List.getElem_cons_zero, List.setIfInBounds_toArray, List.set_cons_zero, List.set_cons_succ])
        refine wpAnyG_one 6 (by kernel_rfl) rfl (by rfl) (fun K hK => ?_)
        go_simp
        refine hK.out _ _ (fun h => absurd h (by decide)) ?_
        clear hK K
        (try simp only [Act.put, List.getElem_toArray, List.getElem_cons_succ, List.getElem_cons_zero, List.setIfInBounds_toArray, List.set_cons_zero, List.set_cons_succ])
        refine wpAnyG_done (by kernel_rfl) ?_ _
        go_wp2
        go_ret2
        exact ⟨rfl, HE.out.trans (XR.trans (Y1.trans f7))⟩
      · have e3 : decide (0 ≤ z) = false := decide_eq_false hzz
        have HNX := Lib.hid (firstN_none HFN.out (by rw [HEP.out]; exact e3))
        refine wp_region_G (fun w' => Ext W1 w') [6] (by kernel_rfl) ?_
        have gS : Ext W1 W1.drew := (Below.refl _ _).drew
        refine wpAnyG_take 0 (v := ?_) rfl (by kernel_rfl) (by kernel_rfl) (by kernel_rfl) (by kernel_rfl) (by rfl) (by kernel_rfl) (fun _ _ _ h => h) (by rfl) (fun w' hw' => ?_) gS ?_
        rotate_left
        focus (have hh := HS.out _ hw'; go_split_ands; go_simp; (try with_reducible rfl); done)
        (try simp only [Act.put, List.getElem_toArray, List.getElem_cons_succ, List.getElem_cons_zero, List.setIfInBounds_toArray, List.set_cons_zero, List.set_cons_succ])
        refine wpAnyG_take 1 (v := ?_) rfl (by kernel_rfl) (by kernel_rfl) (by kernel_rfl) (by kernel_rfl) (by rfl) (by kernel_rfl) (fun _ _ _ h => h) (by rfl) (fun w' hw' => ?_) gS ?_
        rotate_left
        focus (have hh := HS.out _ hw'; go_split_ands; go_simp; (try with_reducible rfl); done)
        (try simp only [Act.put, List.getElem_toArray, List.getElem_cons_succ, List.getElem_cons_zero, List.setIfInBounds_toArray, List.set_cons_zero, List.set_cons_succ])
        refine wpAnyG_take 2 (v := ?_) rfl (by kernel_rfl) (by kernel_rfl) (by kernel_rfl) (by kernel_rfl) (by rfl) (by kernel_rfl) (fun _ _ _ h => h) (by rfl) (fun w' hw' => ?_) gS ?_
        rotate_left
        focus (go_simp; (try with_reducible rfl); done)
        (try simp only [Act.put, List.getElem_toArray, List.getElem_cons_succ, List.getElem_cons_zero, List.setIfInBounds_toArray, List.set_cons_zero, List.set_cons_succ])
        refine wpAnyG_one 3 (by kernel_rfl) rfl (by rfl) (fun K hK => ?_)
        go_simp
        go_at_call 28
        refine (HOF.out _).mono ?_
        rintro _ s5 ⟨b5, A5, k5, c5, B5, l5, d5, rfl, h5, y5, _, _⟩
        have gS : Ext W1 s5 := Ext.trans gS y5
        (try go_wp2_with fail)
        refine hK.out _ _ (fun _ => gS) ?_
        clear hK K
        (try simp only [Act.put, List.getElem_toArray, List.getElem_cons_succ, List.getElem_cons_zero, List.setIfInBounds_toArray, List.set_cons_zero, List.set_cons_succ])
        refine wpAnyG_one 4 (by kernel_rfl) rfl (by rfl) (fun K hK => ?_)
        go_simp
        go_at_call 39
        refine (mul_f (HX.out _ (HE.out.trans (XR.trans (Y1.trans gS)))) (FracV.any h5 HFD.out (by omega)) (by omega)).mono ?_
        rintro _ s6 ⟨b6, A6, k6, c6, B6, l6, d6, rfl, h6, y6, _, _⟩
        have gS : Ext W1 s6 := Ext.trans gS y6
        (try go_wp2_with fail)
        refine hK.out _ _ (fun _ => gS) ?_
        clear hK K
        (try simp only [Act.put, List.getElem_toArray, List.getElem_cons_succ, List.getElem_cons_zero, List.setIfInBounds_toArray, List.set_cons_zero, List.set_cons_succ])
        refine wpAnyG_one 5 (by kernel_rfl) rfl (by rfl) (fun K hK => ?_)
        go_simp
        go_at_call 32
        refine (cmp_e (HP1.out _ gS) (FracV.any h6 HFR.out (by omega)) (by omega) HZ.out).mono ?_
        rintro _ s7 ⟨rfl, y7⟩
        have gS : Ext W1 s7 := Ext.trans gS y7
        have f7 := gS
        (try go_wp2_with fail)
        refine hK.out _ _ (fun _ => gS) ?_
        clear hK K
        (try simp only [Act.put, List.getElem_toArray, List.getElem_cons_succ, List.getElem_cons_zero, List.setIfInBounds_toArray, List.set_cons_zero, List.set_cons_succ])
        refine wpAnyG_one 6 (by kernel_rfl) rfl (by rfl) (fun K hK => ?_)
        go_simp
        refine hK.out _ _ (fun h => absurd h (by decide)) ?_
        clear hK K
        (try simp only [Act.put, List.getElem_toArray, List.getElem_cons_succ, List.getElem_cons_zero, List.setIfInBounds_toArray, List.set_cons_zero, List.set_cons_succ])
        refine wpAnyG_done (by kernel_rfl) ?_ _
        go_wp2
        go_roundw
        case rel => exact ⟨n + 1, by omega, by go_num, HNX, hx.trans (Y1.trans f7)⟩
        case measure => simp [intOf]; omega
    · obtain rfl : n = 31 := by omega
      have HEN := Lib.hid (show enN D q = 31 from by rw [HP31.out]; exact hf.out)
      have hv1 : vn = 0 := by rw [← HVN.out, HEN.out]; rfl
      have hv2 : ve = 7 := by rw [← HVE.out, HEN.out]; rfl
      subst hv1 hv2
      clear hf
      go_wp2
      go_ret2
      exact ⟨rfl, HE.out.trans XR⟩

end Go.Proofs.YtnedgbebajhcpaaGreatDoor
namespace Go.Proofs.YtnedgbebajhcpaaGreatDoor
open Go.RowKit Num

set_option maxHeartbeats 8000000 in
theorem senough_arg {D : Int} {b : Bool} {s t : Value} {q : Rat} {L : Nat} {w : World} (hx : AnyF w b s t q L) (hL : L ≤ 1000) (hq : ¬ ShareIn q) :
    Calls Tryz.prog 15 #[.int .i64 D, .agg #[.bool b, s, t]] w (fun e w' => e = .returned (.tuple #[.int .i64 0, .int .i64 1]) ∧ Ext w w') := by
  have HX := Lib.hid (fun (w' : World) (h : Ext w w') => hx.below h)
  obtain ⟨z1, hz1⟩ : ∃ z, sgnQ q = z := ⟨_, rfl⟩
  obtain ⟨z2, hz2⟩ : ∃ z, cmpQ q one1 = z := ⟨_, rfl⟩
  have hq' : ¬ (¬ z1 < 0 ∧ ¬ 0 < z2) := by rw [← hz1, ← hz2]; exact hq
  have HZ1 := Lib.hid hz1
  have HZ2 := Lib.hid hz2
  clear hx hz1 hz2 hq
  by_cases hs : z1 < 0
  · have e1 : decide (z1 < 0) = true := decide_eq_true hs
    clear hs hq'
    go_enter Tryz.func15, Tryz.ntmps15
    go_upto_region 1 with (fail)
    have hB0 := FBox.new w (.bool b) (s) (t) 27
    have x0 : Ext w (w.alloc (.cells #[.bool b, s, t] 27)) := ext_alloc (Below.refl _ _) _
    have hs0 : w.heap.size + 1 ≤ (w.alloc (.cells #[.bool b, s, t] 27)).heap.size := by simp
    generalize (w.alloc (.cells #[.bool b, s, t] 27)) = W0 at *
    have HB0 := Lib.hid (fun (w' : World) (h : Ext W0 w') => hB0.below h)
    obtain ⟨c00, c01, c02, d00, d01, d02⟩ := hB0
    have HE := Lib.hid x0
    clear x0
    have f0 : Ext W0 W0 := Below.refl _ _
    have HS := Lib.hid (fun (w' : World) (h : Ext W0 w') => (⟨(HB0.out _ h).1, (HB0.out _ h).2.1, (HB0.out _ h).2.2.1⟩ : w'.cell? ⟨w.heap.size, 0, none⟩ = some (.bool b) ∧ w'.cell? ⟨w.heap.size, 1, none⟩ = some s ∧ w'.cell? ⟨w.heap.size, 2, none⟩ = some t))
    refine wp_region_G (fun w' => Ext W0 w') [9] (by kernel_rfl) ?_
    have gS : Ext W0 W0.drew := (Below.refl _ _).drew
    refine wpAnyG_take 0 (v := ?_) rfl (by kernel_rfl) (by kernel_rfl) (by kernel_rfl) (by kernel_rfl) (by rfl) (by kernel_rfl) (fun _ _ _ h => h) (by rfl) (fun w' hw' => ?_) gS ?_
    rotate_left
    focus (have hh := HS.out _ hw'; go_split_ands; go_simp; (try with_reducible rfl); done)
    (try simp only [Act.put, List.getElem_toArray, List.getElem_cons_succ, List.getElem_cons_zero, List.setIfInBounds_toArray, List.set_cons_zero, List.set_cons_succ])
    refine wpAnyG_one 1 (by kernel_rfl) rfl (by rfl) (fun K hK => ?_)
    go_simp
    go_at_call 38
    refine (sign_e (HX.out _ (HE.out.trans gS)) HZ1.out).mono ?_
    rintro _ s1 ⟨rfl, y1⟩
    have gS : Ext W0 s1 := Ext.trans gS y1
    have f4 := gS
    (try go_wp2_with fail)
    refine hK.out _ _ (fun _ => gS) ?_
    clear hK K
    (try simp only [Act.put, List.getElem_toArray, List.getElem_cons_succ, List.getElem_cons_zero, List.setIfInBounds_toArray, List.set_cons_zero, List.set_cons_succ])
    refine wpAnyG_take 2 (v := ?_) rfl (by kernel_rfl) (by kernel_rfl) (by kernel_rfl) (by kernel_rfl) (by rfl) (by kernel_rfl) (fun _ _ _ h => h) (by rfl) (fun w' hw' => ?_) gS ?_
    rotate_left
    focus (go_simp; (try with_reducible rfl); done)
    (try simp only [Act.put, List.getElem_toArray, List.getElem_cons_succ, List.getElem_cons_zero, List.setIfInBounds_toArray, List.set_cons_zero, List.set_cons_succ])
    refine wpAnyG_take 3 (v := ?_) rfl (by kernel_rfl) (by kernel_rfl) (by kernel_rfl) (by kernel_rfl) (by rfl) (by kernel_rfl) (fun _ _ _ h => h) (by rfl) (fun w' hw' => ?_) gS ?_
    rotate_left
    focus (go_simp; (try with_reducible rfl); done)
    (try simp only [Act.put, List.getElem_toArray, List.getElem_cons_succ, List.getElem_cons_zero, List.setIfInBounds_toArray, List.set_cons_zero, List.set_cons_succ])
    refine wpAnyG_skip 4 rfl (by kernel_rfl) (by kernel_rfl) (by kernel_rfl) (by kernel_rfl) (by rfl) (by kernel_rfl) (fun _ _ _ h => h) (by rfl) gS ?_
    (try simp only [Act.put, List.getElem_toArray, List.getElem_cons_succ, List.getElem_cons_zero, List.setIfInBounds_toArray, List.set_cons_zero, List.set_cons_succ])
    refine wpAnyG_skip 5 rfl (by kernel_rfl) (by kernel_rfl) (by kernel_rfl) (by kernel_rfl) (by rfl) (by kernel_rfl) (fun _ _ _ h => h) (by rfl) gS ?_
    (try simp only [Act.put, List.getElem_toArray, List.getElem_cons_succ, List.getElem_cons_zero, List.setIfInBounds_toArray, List.set_cons_zero, List.set_cons_succ])
    refine wpAnyG_skip 6 rfl (by kernel_rfl) (by kernel_rfl) (by kernel_rfl) (by kernel_rfl) (by rfl) (by kernel_rfl) (fun _ _ _ h => h) (by rfl) gS ?_
    (try simp only [Act.put, List.getElem_toArray, List.getElem_cons_succ, List.getElem_cons_zero, List.setIfInBounds_toArray, List.set_cons_zero, List.set_cons_succ])
    refine wpAnyG_skip 7 rfl (by kernel_rfl) (by kernel_rfl) (by kernel_rfl) (by kernel_rfl) (by rfl) (by kernel_rfl) (fun _ _ _ h => h) (by rfl) gS ?_
    (try simp only [Act.put, List.getElem_toArray, List.getElem_cons_succ, List.getElem_cons_zero, List.setIfInBounds_toArray, List.set_cons_zero, List.set_cons_succ])
    refine wpAnyG_take 8 (v := ?_) rfl (by kernel_rfl) (by kernel_rfl) (by kernel_rfl) (by kernel_rfl) (by rfl) (by kernel_rfl) (fun _ _ _ h => h) (by rfl) (fun w' hw' => ?_) gS ?_
    rotate_left
    focus (go_simp; (try with_reducible rfl); done)
    (try simp only [Act.put, List.getElem_toArray, List.getElem_cons_succ, List.getElem_cons_zero, List.setIfInBounds_toArray, List.set_cons_zero, List.set_cons_succ])
    refine wpAnyG_one 9 (by kernel_rfl) rfl (by rfl) (fun K hK => ?_)
    (try simp only [List.getElem_toArray, List.getElem_cons_succ, List.getElem_cons_zero])
    go_simp
    refine hK.out _ _ (fun h => absurd h (by decide)) ?_
    clear hK K
    (try simp only [Act.put, List.getElem_toArray, List.getElem_cons_succ, List.getElem_cons_zero, List.setIfInBounds_toArray, List.set_cons_zero, List.set_cons_succ])
    refine wpAnyG_done (by kernel_rfl) ?_ _
    go_wp2
    go_ret2
    exact ⟨rfl, HE.out.trans f4⟩
  · have e1 : decide (z1 < 0) = false := decide_eq_false hs
    have e2 : decide (0 < z2) = true := decide_eq_true (by omega)
    clear hs hq'
    go_enter Tryz.func15, Tryz.ntmps15
    go_upto_region 1 with (fail)
    have hB0 := FBox.new w (.bool b) (s) (t) 27
    have x0 : Ext w (w.alloc (.cells #[.bool b, s, t] 27)) := ext_alloc (Below.refl _ _) _
    have hs0 : w.heap.size + 1 ≤ (w.alloc (.cells #[.bool b, s, t] 27)).heap.size := by simp
    generalize (w.alloc (.cells #[.bool b, s, t] 27)) = W0 at *
    have HB0 := Lib.hid (fun (w' : World) (h : Ext W0 w') => hB0.below h)
    obtain ⟨c00, c01, c02, d00, d01, d02⟩ := hB0
    have HE := Lib.hid x0
    clear x0
    have f0 : Ext W0 W0 := Below.refl _ _
    have HS := Lib.hid (fun (w' : World) (h : Ext W0 w') => (⟨(HB0.out _ h).1, (HB0.out _ h).2.1, (HB0.out _ h).2.2.1⟩ : w'.cell? ⟨w.heap.size, 0, none⟩ = some (.bool b) ∧ w'.cell? ⟨w.heap.size, 1, none⟩ = some s ∧ w'.cell? ⟨w.heap.size, 2, none⟩ = some t))
    refine wp_region_G (fun w' => Ext W0 w') [9] (by kernel_rfl) ?_
    have gS : Ext W0 W0.drew := (Below.refl _ _).drew
    refine wpAnyG_take 0 (v := ?_) rfl (by kernel_rfl) (by kernel_rfl) (by kernel_rfl) (by kernel_rfl) (by rfl) (by kernel_rfl) (fun _ _ _ h => h) (by rfl) (fun w' hw' => ?_) gS ?_
    rotate_left
    focus (have hh := HS.out _ hw'; go_split_ands; go_simp; (try with_reducible rfl); done)
    (try simp only [Act.put, List.getElem_toArray, List.getElem_cons_succ, List.getElem_cons_zero, List.setIfInBounds_toArray, List.set_cons_zero, List.set_cons_succ])
    refine wpAnyG_one 1 (by kernel_rfl) rfl (by rfl) (fun K hK => ?_)
    go_simp
    go_at_call 38
    refine (sign_e (HX.out _ (HE.out.trans gS)) HZ1.out).mono ?_
    rintro _ s1 ⟨rfl, y1⟩
    have gS : Ext W0 s1 := Ext.trans gS y1
    (try go_wp2_with fail)
    refine hK.out _ _ (fun _ => gS) ?_
    clear hK K
    (try simp only [Act.put, List.getElem_toArray, List.getElem_cons_succ, List.getElem_cons_zero, List.setIfInBounds_toArray, List.set_cons_zero, List.set_cons_succ])
    refine wpAnyG_take 2 (v := ?_) rfl (by kernel_rfl) (by kernel_rfl) (by kernel_rfl) (by kernel_rfl) (by rfl) (by kernel_rfl) (fun _ _ _ h => h) (by rfl) (fun w' hw' => ?_) gS ?_
    rotate_left
    focus (go_simp; (try with_reducible rfl); done)
    (try simp only [Act.put, List.getElem_toArray, List.getElem_cons_succ, List.getElem_cons_zero, List.setIfInBounds_toArray, List.set_cons_zero, List.set_cons_succ])
    refine wpAnyG_take 3 (v := ?_) rfl (by kernel_rfl) (by kernel_rfl) (by kernel_rfl) (by kernel_rfl) (by rfl) (by kernel_rfl) (fun _ _ _ h => h) (by rfl) (fun w' hw' => ?_) gS ?_
    rotate_left
    focus (go_simp; (try with_reducible rfl); done)
    (try simp only [Act.put, List.getElem_toArray, List.getElem_cons_succ, List.getElem_cons_zero, List.setIfInBounds_toArray, List.set_cons_zero, List.set_cons_succ])
    refine wpAnyG_take 4 (v := ?_) rfl (by kernel_rfl) (by kernel_rfl) (by kernel_rfl) (by kernel_rfl) (by rfl) (by kernel_rfl) (fun _ _ _ h => h) (by rfl) (fun w' hw' => ?_) gS ?_
    rotate_left
    focus (have hh := HS.out _ hw'; go_split_ands; go_simp; (try with_reducible rfl); done)
    (try simp only [Act.put, List.getElem_toArray, List.getElem_cons_succ, List.getElem_cons_zero, List.setIfInBounds_toArray, List.set_cons_zero, List.set_cons_succ])
    refine wpAnyG_one 5 (by kernel_rfl) rfl (by rfl) (fun K hK => ?_)
    go_simp
    go_at_call 28
    refine (fof_n (n := 1) (d := 1) (by omega) (by omega)).mono ?_
    rintro _ s3 ⟨b3, A3, k3, c3, B3, l3, d3, rfl, h3, y3, _, _⟩
    have h3 : FracV s3 b3 (.slice A3 k3 c3) (.slice B3 l3 d3) one1 := h3
    have gS : Ext W0 s3 := Ext.trans gS y3
    (try go_wp2_with fail)
    refine hK.out _ _ (fun _ => gS) ?_
    clear hK K
    (try simp only [Act.put, List.getElem_toArray, List.getElem_cons_succ, List.getElem_cons_zero, List.setIfInBounds_toArray, List.set_cons_zero, List.set_cons_succ])
    refine wpAnyG_one 6 (by kernel_rfl) rfl (by rfl) (fun K hK => ?_)
    go_simp
    go_at_call 32
    refine (cmp_e (HX.out _ (HE.out.trans gS)) (FracV.any h3 one1_fb (by omega)) (by omega) HZ2.out).mono ?_
    rintro _ s4 ⟨rfl, y4⟩
    have gS : Ext W0 s4 := Ext.trans gS y4
    have f4 := gS
    (try go_wp2_with fail)
    refine hK.out _ _ (fun _ => gS) ?_
    clear hK K
    (try simp only [Act.put, List.getElem_toArray, List.getElem_cons_succ, List.getElem_cons_zero, List.setIfInBounds_toArray, List.set_cons_zero, List.set_cons_succ])
    refine wpAnyG_take 7 (v := ?_) rfl (by kernel_rfl) (by kernel_rfl) (by kernel_rfl) (by kernel_rfl) (by rfl) (by kernel_rfl) (fun _ _ _ h => h) (by rfl) (fun w' hw' => ?_) gS ?_
    rotate_left
    focus (go_simp; (try with_reducible rfl); done)
    (try simp only [Act.put, List.getElem_toArray, List.getElem_cons_succ, List.getElem_cons_zero, List.setIfInBounds_toArray, List.set_cons_zero, List.set_cons_succ])
    refine wpAnyG_take 8 (v := ?_) rfl (by kernel_rfl) (by kernel_rfl) (by kernel_rfl) (by kernel_rfl) (by rfl) (by kernel_rfl) (fun _ _ _ h => h) (by rfl) (fun w' hw' => ?_) gS ?_
    rotate_left
    focus (go_simp; (try with_reducible rfl); done)
    (try simp only [Act.put, List.getElem_toArray, List.getElem_cons_succ, List.getElem_cons_zero, List.setIfInBounds_toArray, List.set_cons_zero, List.set_cons_succ])
    refine wpAnyG_one 9 (by kernel_rfl) rfl (by rfl) (fun K hK => ?_)
    (try simp only [List.getElem_toArray, List.getElem_cons_succ, List.getElem_cons_zero])
    go_simp
    refine hK.out _ _ (fun h => absurd h (by decide)) ?_
    clear hK K
    (try simp only [Act.put, List.getElem_toArray, List.getElem_cons_succ, List.getElem_cons_zero, List.setIfInBounds_toArray, List.set_cons_zero, List.set_cons_succ])
    refine wpAnyG_done (by kernel_rfl) ?_ _
    go_wp2
    go_ret2
    exact ⟨rfl, HE.out.trans f4⟩

set_option maxHeartbeats 8000000 in
theorem senough_range {D : Int} {b : Bool} {s t : Value} {q : Rat} {L : Nat} {w : World} (hx : AnyF w b s t q L) (hL : L ≤ 1000) (hq : ShareIn q) (hD : D < 1 ∨ 60 < D) :
    Calls Tryz.prog 15 #[.int .i64 D, .agg #[.bool b, s, t]] w (fun e w' => e = .returned (.tuple #[.int .i64 0, .int .i64 2]) ∧ Ext w w') := by
  have HX := Lib.hid (fun (w' : World) (h : Ext w w') => hx.below h)
  have HD := Lib.hid hD
  obtain ⟨z1, hz1⟩ : ∃ z, sgnQ q = z := ⟨_, rfl⟩
  obtain ⟨z2, hz2⟩ : ∃ z, cmpQ q one1 = z := ⟨_, rfl⟩
  have e1 : decide (z1 < 0) = false := decide_eq_false (by rw [← hz1]; exact hq.1)
  have e2 : decide (0 < z2) = false := decide_eq_false (by rw [← hz2]; exact hq.2)
  have HZ1 := Lib.hid hz1
  have HZ2 := Lib.hid hz2
  clear hx hz1 hz2 hq hD
  go_enter Tryz.func15, Tryz.ntmps15
  go_upto_region 1 with (fail)
  have hB0 := FBox.new w (.bool b) (s) (t) 27
  have x0 : Ext w (w.alloc (.cells #[.bool b, s, t] 27)) := ext_alloc (Below.refl _ _) _
  have hs0 : w.heap.size + 1 ≤ (w.alloc (.cells #[.bool b, s, t] 27)).heap.size := by simp
  generalize (w.alloc (.cells #[.bool b, s, t] 27)) = W0 at *
  have HB0 := Lib.hid (fun (w' : World) (h : Ext W0 w') => hB0.below h)
  obtain ⟨c00, c01, c02, d00, d01, d02⟩ := hB0
  have HE := Lib.hid x0
  clear x0
  have f0 : Ext W0 W0 := Below.refl _ _
  have HS := Lib.hid (fun (w' : World) (h : Ext W0 w') => (⟨(HB0.out _ h).1, (HB0.out _ h).2.1, (HB0.out _ h).2.2.1⟩ : w'.cell? ⟨w.heap.size, 0, none⟩ = some (.bool b) ∧ w'.cell? ⟨w.heap.size, 1, none⟩ = some s ∧ w'.cell? ⟨w.heap.size, 2, none⟩ = some t))
  refine wp_region_G (fun w' => Ext W0 w') [9] (by kernel_rfl) ?_
  have gS : Ext W0 W0.drew := (Below.refl _ _).drew
  refine wpAnyG_take 0 (v := ?_) rfl (by kernel_rfl) (by kernel_rfl) (by kernel_rfl) (by kernel_rfl) (by rfl) (by kernel_rfl) (fun _ _ _ h => h) (by rfl) (fun w' hw' => ?_) gS ?_
  rotate_left
  focus (have hh := HS.out _ hw'; go_split_ands; go_simp; (try with_reducible rfl); done)
  (try simp only [Act.put, List.getElem_toArray, List.getElem_cons_succ, List.getElem_cons_zero, List.setIfInBounds_toArray, List.set_cons_zero, List.set_cons_succ])
  refine wpAnyG_one 1 (by kernel_rfl) rfl (by rfl) (fun K hK => ?_)
  go_simp
  go_at_call 38
  refine (sign_e (HX.out _ (HE.out.trans gS)) HZ1.out).mono ?_
  rintro _ s1 ⟨rfl, y1⟩
  have gS : Ext W0 s1 := Ext.trans gS y1
  (try go_wp2_with fail)
  refine hK.out _ _ (fun _ => gS) ?_
  clear hK K
  (try simp only [Act.put, List.getElem_toArray, List.getElem_cons_succ, List.getElem_cons_zero, List.setIfInBounds_toArray, List.set_cons_zero, List.set_cons_succ])
  refine wpAnyG_take 2 (v := ?_) rfl (by kernel_rfl) (by kernel_rfl) (by kernel_rfl) (by kernel_rfl) (by rfl) (by kernel_rfl) (fun _ _ _ h => h) (by rfl) (fun w' hw' => ?_) gS ?_
  rotate_left
  focus (go_simp; (try with_reducible rfl); done)
  (try simp only [Act.put, List.getElem_toArray, List.getElem_cons_succ, List.getElem_cons_zero, List.setIfInBounds_toArray, List.set_cons_zero, List.set_cons_succ])
  refine wpAnyG_take 3 (v := ?_) rfl (by kernel_rfl) (by kernel_rfl) (by kernel_rfl) (by kernel_rfl) (by rfl) (by kernel_rfl) (fun _ _ _ h => h) (by rfl) (fun w' hw' => ?_) gS ?_
  rotate_left
  focus (go_simp; (try with_reducible rfl); done)
  (try simp only [Act.put, List.getElem_toArray, List.getElem_cons_succ, List.getElem_cons_zero, List.setIfInBounds_toArray, List.set_cons_zero, List.set_cons_succ])
  refine wpAnyG_take 4 (v := ?_) rfl (by kernel_rfl) (by kernel_rfl) (by kernel_rfl) (by kernel_rfl) (by rfl) (by kernel_rfl) (fun _ _ _ h => h) (by rfl) (fun w' hw' => ?_) gS ?_
  rotate_left
  focus (have hh := HS.out _ hw'; go_split_ands; go_simp; (try with_reducible rfl); done)
  (try simp only [Act.put, List.getElem_toArray, List.getElem_cons_succ, List.getElem_cons_zero, List.setIfInBounds_toArray, List.set_cons_zero, List.set_cons_succ])
  refine wpAnyG_one 5 (by kernel_rfl) rfl (by rfl) (fun K hK => ?_)
  go_simp
  go_at_call 28
  refine (fof_n (n := 1) (d := 1) (by omega) (by omega)).mono ?_
  rintro _ s3 ⟨b3, A3, k3, c3, B3, l3, d3, rfl, h3, y3, _, _⟩
  have h3 : FracV s3 b3 (.slice A3 k3 c3) (.slice B3 l3 d3) one1 := h3
  have gS : Ext W0 s3 := Ext.trans gS y3
  (try go_wp2_with fail)
  refine hK.out _ _ (fun _ => gS) ?_
  clear hK K
  (try simp only [Act.put, List.getElem_toArray, List.getElem_cons_succ, List.getElem_cons_zero, List.setIfInBounds_toArray, List.set_cons_zero, List.set_cons_succ])
  refine wpAnyG_one 6 (by kernel_rfl) rfl (by rfl) (fun K hK => ?_)
  go_simp
  go_at_call 32
  refine (cmp_e (HX.out _ (HE.out.trans gS)) (FracV.any h3 one1_fb (by omega)) (by omega) HZ2.out).mono ?_
  rintro _ s4 ⟨rfl, y4⟩
  have gS : Ext W0 s4 := Ext.trans gS y4
  have f4 := gS
  (try go_wp2_with fail)
  refine hK.out _ _ (fun _ => gS) ?_
  clear hK K
  (try simp only [Act.put, List.getElem_toArray, List.getElem_cons_succ, List.getElem_cons_zero, List.setIfInBounds_toArray, List.set_cons_zero, List.set_cons_succ])
  refine wpAnyG_take 7 (v := ?_) rfl (by kernel_rfl) (by kernel_rfl) (by kernel_rfl) (by kernel_rfl) (by rfl) (by kernel_rfl) (fun _ _ _ h => h) (by rfl) (fun w' hw' => ?_) gS ?_
  rotate_left
  focus (go_simp; (try with_reducible rfl); done)
  (try simp only [Act.put, List.getElem_toArray, List.getElem_cons_succ, List.getElem_cons_zero, List.setIfInBounds_toArray, List.set_cons_zero, List.set_cons_succ])
  refine wpAnyG_take 8 (v := ?_) rfl (by kernel_rfl) (by kernel_rfl) (by kernel_rfl) (by kernel_rfl) (by rfl) (by kernel_rfl) (fun _ _ _ h => h) (by rfl) (fun w' hw' => ?_) gS ?_
  rotate_left
  focus (go_simp; (try with_reducible rfl); done)
  (try simp only [Act.put, List.getElem_toArray, List.getElem_cons_succ, List.getElem_cons_zero, List.setIfInBounds_toArray, List.set_cons_zero, List.set_cons_succ])
  refine wpAnyG_one 9 (by kernel_rfl) rfl (by rfl) (fun K hK => ?_)
  (try simp only [List.getElem_toArray, List.getElem_cons_succ, List.getElem_cons_zero])
  go_simp
  refine hK.out _ _ (fun h => absurd h (by decide)) ?_
  clear hK K
  (try simp only [Act.put, List.getElem_toArray, List.getElem_cons_succ, List.getElem_cons_zero, List.setIfInBounds_toArray, List.set_cons_zero, List.set_cons_succ])
  refine wpAnyG_done (by kernel_rfl) ?_ _
  go_wp2_with (go_at_call 19; (with_reducible refine (swithin_f (n := D) HD.out).mono ?_); rintro e w9 ⟨rfl, hw9⟩; obtain rfl : s4 = w9 := hw9.symm)
  go_ret2
  exact ⟨rfl, HE.out.trans f4⟩

end Go.Proofs.YtnedgbebajhcpaaGreatDoor
namespace Go.Proofs.YtnedgbebajhcpaaGreatDoor
open Go.RowKit Num

theorem first_spec {p : Nat → Bool} : ∀ k, (∀ i, i < firstN p k → p i = false) ∧ (firstN p k < k → p (firstN p k) = true)
  | 0 => ⟨fun i hi => absurd hi (Nat.not_lt_zero _), fun h => absurd h (Nat.lt_irrefl _)⟩
  | k + 1 => by
    obtain ⟨h1, h2⟩ := first_spec (p := p) k
    have h : firstN p (k + 1) = if firstN p k < k then firstN p k else if p k then k else k + 1 := rfl
    have hle := first_le (p := p) k
    rw [h]
    by_cases hlt : firstN p k < k
    · rw [if_pos hlt]
      exact ⟨h1, fun _ => h2 hlt⟩
    · have he : firstN p k = k := by omega
      rw [if_neg hlt]
      rw [he] at h1
      cases hp : p k with
      | true => exact ⟨h1, fun _ => hp⟩
      | false =>
        refine ⟨fun i hi => ?_, fun h => absurd h (Nat.lt_irrefl _)⟩
        have hi' : i < k + 1 := hi
        rcases Nat.lt_or_ge i k with h3 | h3
        · exact h1 i h3
        · obtain rfl : i = k := by omega
          exact hp
/-- What Enough answers for 1 to 60 dies. -/
def EnCase (E : Nat) (q : Rat) (vn ve : Int) : Prop :=
  (ve = 1 ∧ vn = 0 ∧ ¬ ShareIn q) ∨ (∃ N : Nat, N < 31 ∧ ve = 0 ∧ vn = (N : Int) ∧ enP E q N = true ∧ ∀ i, i < N → enP E q i = false) ∨ (ve = 7 ∧ vn = 0 ∧ ∀ i, i < 31 → enP E q i = false)
theorem enough_cases {E L : Nat} {q : Rat} (hE1 : 1 ≤ E) (hE : E ≤ 60) (hL1 : 1 ≤ L) (hL : L ≤ 1000) : ∃ vn ve : Int, EnCase E q vn ve ∧
    ∀ (w : World) (b : Bool) (s t : Value), AnyF w b s t q L → Tab10 w → Calls Tryz.prog 15 #[.int .i64 E, .agg #[.bool b, s, t]] w (fun e w' => e = .returned (.tuple #[.int .i64 vn, .int .i64 ve]) ∧ Ext w w') := by
  by_cases hq : ShareIn q
  · have hs := first_spec (p := enP E q) 31
    by_cases hN : enN E q < 31
    · refine ⟨(enN E q : Int), 0, .inr (.inl ⟨enN E q, hN, rfl, rfl, hs.2 hN, hs.1⟩), fun w b s t hx ht => ?_⟩
      have h := senough_ok (D := E) hx hL1 hL hq hE1 hE ht
      rw [if_pos hN, if_pos hN] at h
      exact h
    · have he : enN E q = 31 := by
        have h1 : enN E q ≤ 31 := first_le (p := enP E q) 31
        omega
      refine ⟨0, 7, .inr (.inr ⟨rfl, rfl, fun i hi => hs.1 i ?_⟩), fun w b s t hx ht => ?_⟩
      · have h2 : firstN (enP E q) 31 = 31 := he
        omega
      · have h := senough_ok (D := E) hx hL1 hL hq hE1 hE ht
        rw [if_neg hN, if_neg hN] at h
        exact h
  · exact ⟨0, 1, .inl ⟨rfl, rfl, hq⟩, fun w b s t hx ht => senough_arg (D := (E : Int)) hx hL hq⟩

end Go.Proofs.YtnedgbebajhcpaaGreatDoor
