/- The reference's Unequal; the errors of the program's. -/
import Derived.Test.YtglphodaoafdmaaGreatDoorOcM
set_option linter.unusedVariables false
set_option linter.unusedSimpArgs false
set_option maxRecDepth 100000
namespace Go.Proofs.YtglphodaoafdmaaGreatDoor
open Go.RowKit Num

/-- A die's use: the share of the others. -/
def restU (T : Nat) (u : Int) : Rat := (((T : Int) - u : Int) : Rat) / ((T : Int) : Rat)
def seenU (n T : Nat) (u : Int) : Rat := ((1 : Int) : Rat) / ((1 : Int) : Rat) - pw (restU T u) n
def sumU (n T : Nat) (us : List Int) (k : Nat) : Rat := sumL ((us.take k).map (seenU n T))
theorem sumU_zero (n T : Nat) (us : List Int) : sumU n T us 0 = 0 := rfl
theorem sumU_succ {n T : Nat} {us : List Int} {k : Nat} {u : Int} (h : us[k]? = some u) : sumU n T us (k + 1) = sumU n T us k + seenU n T u := by
  unfold sumU
  rw [List.take_add_one, h, List.map_append, sumL_append]
  show _ + (seenU n T u + 0) = _
  grind
theorem seenU_fb {n T : Nat} {u : Int} (hn : n ≤ 30) (hT : T ≤ 1200) (hu : 1 ≤ u ∧ u ≤ 100) : FB (seenU n T u) 97 :=
  (FB.sub one1_fb (pw_fb (show FB (restU T u) 3 from fb_i64 (by omega) (by omega)) n) (by omega)).mono (by omega)
theorem sumU_fb {n T : Nat} {us : List Int} (hn : n ≤ 30) (hT : T ≤ 1200) (hu : UsesIn us) : ∀ k, k ≤ us.length → FB (sumU n T us k) (3 + 98 * k)
  | 0, _ => by
    rw [sumU_zero]
    exact fb_zero.mono (by omega)
  | k + 1, hk => by
    obtain ⟨u, hx⟩ : ∃ u, us[k]? = some u := ⟨_, List.getElem?_eq_getElem (by omega)⟩
    rw [sumU_succ hx]
    exact (FB.add (sumU_fb hn hT hu k (by omega)) (seenU_fb hn hT (hu u (List.mem_of_getElem? hx))) (by omega)).mono (by omega)
theorem sumU_all {n T : Nat} {us : List Int} (hT : isum us = (T : Int)) (hT0 : T ≠ 0) (h : ∀ u ∈ us, 1 ≤ u ∧ u ≤ (T : Int)) : sumU n T us us.length = unQ n us := by
  unfold sumU
  rw [List.take_of_length_le (Nat.le_refl _)]
  unfold unQ
  rw [hT]
  have hg : ∀ l : List Int, (∀ u ∈ l, 1 ≤ u ∧ u ≤ (T : Int)) → sumL (l.map (seenU n T)) = ((l.length : Int) : Rat) / ((1 : Int) : Rat) - unSub n (T : Int) l := by
    intro l
    induction l with
    | nil =>
      intro _
      show (0 : Rat) = ((0 : Int) : Rat) / ((1 : Int) : Rat) - 0
      rw [zero_first]; grind
    | cons u l ih =>
      intro hl
      have ih := ih fun x hx => hl x (List.mem_cons_of_mem _ hx)
      obtain ⟨h1, h2⟩ := hl u (List.mem_cons_self ..)
      have hp : pw (restU T u) n = powQ (one1 - (u : Rat) / ((T : Int) : Rat)) n := by
        obtain ⟨k, rfl⟩ : ∃ k : Nat, u = (k : Int) := ⟨u.toNat, by omega⟩
        rw [powQ_pw (by omega) hT0]
        unfold restU
        rw [show (T : Int) - (k : Int) = ((T - k : Nat) : Int) from by omega, Rat.intCast_natCast, Rat.intCast_natCast]
      show seenU n T u + sumL (l.map (seenU n T)) = (((l.length + 1 : Nat) : Int) : Rat) / ((1 : Int) : Rat) - (powQ (one1 - (u : Rat) / ((T : Int) : Rat)) n + unSub n (T : Int) l)
      rw [ih, Int.natCast_add, Rat.intCast_add, ← hp]
      unfold seenU
      have e : (((1 : Nat) : Int) : Rat) = 1 := rfl
      have e1 : ((1 : Int) : Rat) = 1 := rfl
      rw [e, e1]
      simp only [Rat.div_def]
      grind
  exact hg us h

set_option maxHeartbeats 8000000 in
theorem runequal_ok {n : Nat} {us : List Int} {A : Option Addr} {c : Nat} {w : World} (hn : n ≤ 30) (hv : IntsV w (.slice A us.length c) us) (hu : UsesIn us) (hl1 : 1 ≤ us.length) (hl2 : us.length ≤ 12) :
    Calls Tryz.prog 10 #[.int .i64 n, .slice A us.length c] w (GivesFE w (unQ n us)) := by
  obtain ⟨T, hTe, hTl⟩ := toNat_cast (fun u h => (hu u h).1)
  have hTb := isum_bd hu
  rw [hTe] at hTb
  have hT1 : T ≤ 1200 := by omega
  have hT0 : 1 ≤ T := by omega
  have hmem : ∀ u ∈ us, u ≤ (T : Int) := fun u h => by rw [← hTe]; exact isum_mem (fun u h => (hu u h).1) u h
  have HE2 := Lib.hid hTe
  have HOUT := Lib.hid (sumU_all (n := n) hTe (by omega) (fun u h => ⟨(hu u h).1, hmem u h⟩))
  have HFB := Lib.hid (fun k (hk : k ≤ us.length) => (sumU_fb (n := n) (T := T) hn hT1 hu k hk).mono (M := 2000) (by omega))
  have HU := Lib.hid hu
  have HSB := Lib.hid (fun k => isum_bd (hu.take k))
  have HV := Lib.hid (fun (w' : World) (h : Ext w w') => hv.below h)
  clear hTe hTb hmem hu hv hTl
  rw [← HOUT.out]
  go_enter Tryz.func10, Tryz.ntmps10
  go_upto_region 1 with (fail)
  have hF0 := FBox.new w (.bool false) (.slice none 0 0) (.slice none 0 0) 28
  have x0 : Ext w (w.alloc (.cells #[.bool false, .slice none 0 0, .slice none 0 0] 28)) := ext_alloc (Below.refl _ _) _
  have hs0 : w.heap.size + 1 ≤ (w.alloc (.cells #[.bool false, .slice none 0 0, .slice none 0 0] 28)).heap.size := by simp
  generalize w.alloc (.cells #[.bool false, .slice none 0 0, .slice none 0 0] 28) = W0 at *
  have HF := Lib.hid (fun (w' : World) (h : Ext W0 w') => hF0.below h)
  have HE := Lib.hid x0
  have f0 : Ext W0 W0 := Below.refl _ _
  obtain ⟨r0, r1, r2, g0, g1, g2⟩ := hF0
  clear x0
  go_wp2_with (first
    | (go_at_call 27; (with_reducible refine (rin_t (n := (n : Int)) (by omega) (by omega)).mono ?_); rintro e wz ⟨rfl, rfl⟩)
    | (go_at_call 28; (with_reducible refine (ruses_t (HV.out _ HE.out) HU.out hl1 hl2).mono ?_); rintro e wz ⟨rfl, rfl⟩))
  go_loop [6, 7] (fun tv iv => ∃ k : Nat, k ≤ us.length ∧ iv = .int .i64 k ∧ tv = .int .i64 (isum (us.take k))) (fun _ iv => us.length - (intOf iv).toNat)
  case atStart => exact ⟨0, Nat.zero_le _, rfl, rfl⟩
  case round =>
    obtain ⟨k, hk, rfl, rfl⟩ := hrel
    by_cases hkn : k < us.length
    · obtain ⟨b, o, rfl, hb, hc⟩ := (HV.out _ HE.out).pl hkn
      obtain ⟨x, hx⟩ : ∃ x, x = us.getD k 0 := ⟨_, rfl⟩
      have hxb := HU.out _ (getD_mem hkn)
      rw [← hx] at hc hxb
      have HST := Lib.hid (show isum (us.take (k + 1)) = isum (us.take k) + x from isum_take_succ (by rw [hx, List.getD_eq_getElem?_getD, List.getElem?_eq_getElem hkn]; rfl))
      obtain ⟨s, hs⟩ : ∃ s, s = isum (us.take k) := ⟨_, rfl⟩
      have hsb := HSB.out k
      have hsl : (us.take k).length ≤ us.length := List.length_take_le' _ _
      rw [← hs] at hsb HST ⊢
      have hw1 : IntKind.i64.wrap (s + x) = s + x := wrap_in (by omega)
      have hi1 : (0 : Int) ≤ (k : Int) := by omega
      have hi2 : (k : Int) < (us.length : Int) := by omega
      clear hx hs
      go_wp2
      go_round
      case rel => exact ⟨k + 1, by omega, by go_num, by rw [HST.out]⟩
      case measure => simp [intOf]; omega
    · obtain rfl : k = us.length := by omega
      rw [List.take_of_length_le (Nat.le_refl _), HE2.out]
      go_wp2_with fail
      refine (rfof_n (n := 0) (d := 1) (by omega) (by omega)).mono ?_
      rintro e w6 ⟨b6, A6, k6, c6, A6', k6', c6', rfl, h6, y6, n6, n6'⟩
      rw [zero_first, ← sumU_zero n T us] at h6
      clear f0
      have hlo := y6.size
      go_wp2
      have hG6 := FBox.new w6 (.bool b6) (.slice A6 k6 c6) (.slice A6' k6' c6') 28
      have Y6 : Ext wz (w6.alloc (.cells #[.bool b6, .slice A6 k6 c6, .slice A6' k6' c6'] 28)) := ext_alloc y6 _
      have h6 := h6.below (ext_alloc (Below.refl _ _) (.cells #[.bool b6, .slice A6 k6 c6, .slice A6' k6' c6'] 28))
      have hsz6 : w6.heap.size < (w6.alloc (.cells #[.bool b6, .slice A6 k6 c6, .slice A6' k6' c6'] 28)).heap.size := by simp
      generalize w6.alloc (.cells #[.bool b6, .slice A6 k6 c6, .slice A6' k6' c6'] 28) = W6 at *
      generalize w6.heap.size = B6 at *
      go_loopw [9] (fun iv wr => ∃ k : Nat, k ≤ us.length ∧ iv = .int .i64 k ∧ FIs wz wr B6 (sumU n T us k)) (fun iv _ => us.length - (intOf iv).toNat)
      case atStart => exact ⟨0, Nat.zero_le _, rfl, b6, A6, k6, c6, A6', k6', c6', hG6, h6, Y6, n6, n6'⟩
      case round =>
        clear hG6 h6 Y6 n6 n6'
        obtain ⟨k, hk, rfl, cc, MA, mk, ml, MA', mk', ml', hM, vM, xM, nM, nM'⟩ := hrel
        have HM2 := Lib.hid (fun (w' : World) (h : Ext wr w') => hM.below h)
        have hMl := hM.lt
        obtain ⟨m0, m1, m2, gm0, gm1, gm2⟩ := hM
        have hX := xM
        by_cases hkl : k < us.length
        · have HMV := Lib.hid (fun (w' : World) (h : Ext wr w') => FracV.any (vM.below h) (HFB.out k (by omega)) (by omega))
          clear vM
          obtain ⟨b, o, rfl, hb, hc⟩ := (HV.out _ (HE.out.trans xM)).pl hkl
          obtain ⟨x, hx⟩ : ∃ x, x = us.getD k 0 := ⟨_, rfl⟩
          have hxb := HU.out _ (getD_mem hkl)
          rw [← hx] at hc hxb
          have HST := Lib.hid (show sumU n T us (k + 1) = sumU n T us k + seenU n T x from sumU_succ (by rw [hx, List.getD_eq_getElem?_getD, List.getElem?_eq_getElem hkl]; rfl))
          have hi1 : (0 : Int) ≤ (k : Int) := by omega
          have hi2 : (k : Int) < (us.length : Int) := by omega
          have hw2 : IntKind.i64.wrap ((T : Int) - x) = (T : Int) - x := wrap_in (by omega)
          have HF1 := Lib.hid (show FB (restU T x) 3 from fb_i64 (by omega) (by omega))
          have HF2 := Lib.hid ((pw_fb HF1.out n).mono (M := 93) (by omega))
          have HF3 := Lib.hid (seenU_fb hn hT1 hxb)
          have HO := Lib.hid one1_fb
          clear hx
          go_wp2_with fail
          refine (rfof_n (n := (T : Int) - x) (d := (T : Int)) (by omega) (by omega)).mono ?_
          rintro _ w1 ⟨b1, A1, k1, c1, B1, l1, d1, rfl, h1, z1, _⟩
          go_wp2_with fail
          refine (rpower_n (n := n) (q := restU T x) (L := 3) (FracV.any h1 HF1.out (by omega)) HF1.out hn (by omega)).mono ?_
          rintro _ w2 ⟨b2, A2, k2, c2, A2', k2', c2', rfl, h2, y2, n2, n2'⟩
          have y2 := z1.trans y2
          clear n2 n2' h1 z1
          go_upto_region 15 with (fail)
          have hG2 := FBox.new w2 (.bool b2) (.slice A2 k2 c2) (.slice A2' k2' c2') 28
          have Y2 : Ext wr (w2.alloc (.cells #[.bool b2, .slice A2 k2 c2, .slice A2' k2' c2'] 28)) := ext_alloc y2 _
          have h2 := h2.below (ext_alloc (Below.refl _ _) (.cells #[.bool b2, .slice A2 k2 c2, .slice A2' k2' c2'] 28))
          have hsz2 : w2.heap.size < (w2.alloc (.cells #[.bool b2, .slice A2 k2 c2, .slice A2' k2' c2'] 28)).heap.size := by simp
          generalize w2.alloc (.cells #[.bool b2, .slice A2 k2 c2, .slice A2' k2' c2'] 28) = W2 at *
          generalize w2.heap.size = B2 at *
          have HG2 := Lib.hid (fun (w' : World) (h : Ext W2 w') => hG2.below h)
          have HP2 := Lib.hid (fun (w' : World) (h : Ext W2 w') => FracV.any (h2.below h) HF2.out (by omega))
          clear hG2 h2 y2 hsz2
          have HS := Lib.hid (fun (w' : World) (h : Ext W2 w') => And.intro (And.intro (HM2.out _ (Y2.trans h)).1 (And.intro (HM2.out _ (Y2.trans h)).2.1 (HM2.out _ (Y2.trans h)).2.2.1)) (And.intro (HG2.out _ h).1 (And.intro (HG2.out _ h).2.1 (HG2.out _ h).2.2.1)))
          refine wp_region_G (fun w' => Ext W2 w') [5] (by kernel_rfl) ?_
          have gS : Ext W2 W2.drew := (Below.refl _ _).drew
          refine wpAnyG_take 0 (v := ?_) rfl (by kernel_rfl) (by kernel_rfl) (by kernel_rfl) (by kernel_rfl) (by rfl) (by kernel_rfl) (fun _ _ _ h => h) (by rfl) (fun w' hw' => ?_) gS ?_
          rotate_left
          · (have hh := HS.out _ hw'; go_split_ands; go_simp; try with_reducible rfl)
          (try simp only [Act.put, List.setIfInBounds_toArray, List.set_cons_zero, List.set_cons_succ])
          refine wpAnyG_take 2 (v := ?_) rfl (by kernel_rfl) (by kernel_rfl) (by kernel_rfl) (by kernel_rfl) (by rfl) (by kernel_rfl) (fun _ _ _ h => h) (by rfl) (fun w' hw' => ?_) gS ?_
          rotate_left
          · (have hh := HS.out _ hw'; go_split_ands; go_simp; try with_reducible rfl)
          (try simp only [Act.put, List.setIfInBounds_toArray, List.set_cons_zero, List.set_cons_succ])
          refine wpAnyG_one 1 (by kernel_rfl) rfl (by rfl) (fun K hK => ?_)
          go_simp
          go_at_call 20
          refine (rfof_n (n := 1) (d := 1) (by omega) (by omega)).mono ?_
          rintro _ s1 ⟨b4, A4, k4, c4, B4, l4, d4, rfl, h4, z4, _⟩
          have gS : Ext W2 s1 := Ext.trans gS z4
          (try go_wp2_with fail)
          refine hK.out _ _ (fun _ => gS) ?_
          clear hK K
          (try simp only [Act.put, List.setIfInBounds_toArray, List.set_cons_zero, List.set_cons_succ])
          refine wpAnyG_one 3 (by kernel_rfl) rfl (by rfl) (fun K hK => ?_)
          go_simp
          go_at_call 29
          refine (rsub_f (FracV.any h4 HO.out (by omega)) (HP2.out _ gS) HO.out HF2.out (by omega)).mono ?_
          rintro _ s2 ⟨b5, A5, k5, c5, B5, l5, d5, rfl, h5, z5, _⟩
          have gS : Ext W2 s2 := Ext.trans gS z5
          (try go_wp2_with fail)
          refine hK.out _ _ (fun _ => gS) ?_
          clear hK K
          (try simp only [Act.put, List.setIfInBounds_toArray, List.set_cons_zero, List.set_cons_succ])
          refine wpAnyG_one 4 (by kernel_rfl) rfl (by rfl) (fun K hK => ?_)
          go_simp
          go_at_call 21
          refine (radd_f (HMV.out _ (Y2.trans gS)) (FracV.any (q := seenU n T x) h5 HF3.out (by omega)) (HFB.out k (by omega)) HF3.out (by omega)).mono ?_
          rintro _ s3 ⟨b3, A3, k3, c3, B3, l3, d3, rfl, h3, z3, n3, m3⟩
          have hg2 := gS.size
          have gS : Ext W2 s3 := Ext.trans gS z3
          have f2 := Y2.trans gS
          have hy2 := Y2.size
          obtain ⟨m0, m1, m2, gm0, gm1, gm2⟩ := HM2.out _ f2
          (try go_wp2_with fail)
          refine hK.out _ _ (fun _ => gS) ?_
          clear hK K
          (try simp only [Act.put, List.setIfInBounds_toArray, List.set_cons_zero, List.set_cons_succ])
          refine wpAnyG_one 5 (by kernel_rfl) rfl (by rfl) (fun K hK => ?_)
          go_simp
          refine hK.out _ _ (fun h => absurd h (by decide)) ?_
          clear hK K
          (try simp only [Act.put, List.setIfInBounds_toArray, List.set_cons_zero, List.set_cons_succ])
          refine wpAnyG_done (by kernel_rfl) ?_ _
          go_wp2
          go_roundw
          all_goals first
            | exact ⟨k + 1, by omega, by go_num, b3, A3, k3, c3, B3, l3, d3, (HM2.out _ f2).put _ _ _, by rw [HST.out]; exact FracV.put h3 n3 m3 (by omega) _ _ _, ext_put (hX.trans f2) (by omega) _ _ _, n3.mono (by have := hX.size; omega), m3.mono (by have := hX.size; omega)⟩
            | (simp [intOf]; omega)
        · obtain rfl : k = us.length := by omega
          obtain ⟨r0, r1, r2, g0, g1, g2⟩ := HF.out _ xM
          go_wp2
          obtain ⟨q0, q1, q2⟩ := set3 r0 r1 r2 (.bool cc) (.slice MA mk ml) (.slice MA' mk' ml')
          refine bodyPost_ret (v := .tuple #[.agg #[.bool cc, .slice MA mk ml, .slice MA' mk' ml'], .int .i64 0]) (by simp [results, Tryz.results10, go_sem, q0, q1, q2]) rfl ?_
          exact GivesFE.box (B := w.heap.size) (HE.out.trans xM) vM (nM.mono (by omega)) (nM'.mono (by omega)) (Nat.le_refl _)
set_option maxHeartbeats 2000000 in
theorem runequal_no {n : Int} {v : Value} {w : World} (h : n < 0 ∨ 30 < n) : Calls Tryz.prog 10 #[.int .i64 n, v] w (GivesFN w 2) := by
  have H := Lib.hid h
  clear h
  go_enter Tryz.func10, Tryz.ntmps10
  go_upto_region 1 with (fail)
  have hF0 := FBox.new w (.bool false) (.slice none 0 0) (.slice none 0 0) 28
  have x0 : Ext w (w.alloc (.cells #[.bool false, .slice none 0 0, .slice none 0 0] 28)) := ext_alloc (Below.refl _ _) _
  have hs0 : w.heap.size + 1 ≤ (w.alloc (.cells #[.bool false, .slice none 0 0, .slice none 0 0] 28)).heap.size := by simp
  generalize w.alloc (.cells #[.bool false, .slice none 0 0, .slice none 0 0] 28) = W0 at *
  have HF := Lib.hid (fun (w' : World) (h : Ext W0 w') => hF0.below h)
  have HE := Lib.hid x0
  have f0 : Ext W0 W0 := Below.refl _ _
  obtain ⟨r0, r1, r2, g0, g1, g2⟩ := hF0
  clear x0
  go_wp2_with (go_at_call 27; (with_reducible refine (rin_f H.out).mono ?_); rintro e w1 ⟨rfl, rfl⟩)
  obtain ⟨q0, q1, q2⟩ := set3 r0 r1 r2 (.bool false) (.slice none 0 0) (.slice none 0 0)
  refine bodyPost_ret (v := .tuple #[.agg #[.bool false, .slice none 0 0, .slice none 0 0], .int .i64 2]) (by simp [results, Tryz.results10, go_sem, q0, q1, q2]) rfl ?_
  exact ⟨rfl, ext_put HE.out (Nat.le_refl _) _ _ _⟩
set_option maxHeartbeats 2000000 in
theorem runequal_arg {n : Int} {us : List Int} {A : Option Addr} {c : Nat} {w : World} (h : 0 ≤ n ∧ n ≤ 30) (hv : IntsV w (.slice A us.length c) us) (hu : ¬ (UsesIn us ∧ 1 ≤ us.length ∧ us.length ≤ 12)) : Calls Tryz.prog 10 #[.int .i64 n, .slice A us.length c] w (GivesFN w 1) := by
  have HV := Lib.hid (fun (w' : World) (h : Ext w w') => hv.below h)
  have HU := Lib.hid hu
  clear hv hu
  go_enter Tryz.func10, Tryz.ntmps10
  go_upto_region 1 with (fail)
  have hF0 := FBox.new w (.bool false) (.slice none 0 0) (.slice none 0 0) 28
  have x0 : Ext w (w.alloc (.cells #[.bool false, .slice none 0 0, .slice none 0 0] 28)) := ext_alloc (Below.refl _ _) _
  have hs0 : w.heap.size + 1 ≤ (w.alloc (.cells #[.bool false, .slice none 0 0, .slice none 0 0] 28)).heap.size := by simp
  generalize w.alloc (.cells #[.bool false, .slice none 0 0, .slice none 0 0] 28) = W0 at *
  have HF := Lib.hid (fun (w' : World) (h : Ext W0 w') => hF0.below h)
  have HE := Lib.hid x0
  have f0 : Ext W0 W0 := Below.refl _ _
  obtain ⟨r0, r1, r2, g0, g1, g2⟩ := hF0
  clear x0
  go_wp2_with (first
    | (go_at_call 27; (with_reducible refine (rin_t h.1 h.2).mono ?_); rintro e wz ⟨rfl, rfl⟩)
    | (go_at_call 28; (with_reducible refine (ruses_f (HV.out _ HE.out) HU.out).mono ?_); rintro e wz ⟨rfl, rfl⟩))
  obtain ⟨q0, q1, q2⟩ := set3 r0 r1 r2 (.bool false) (.slice none 0 0) (.slice none 0 0)
  refine bodyPost_ret (v := .tuple #[.agg #[.bool false, .slice none 0 0, .slice none 0 0], .int .i64 1]) (by simp [results, Tryz.results10, go_sem, q0, q1, q2]) rfl ?_
  exact ⟨rfl, ext_put HE.out (Nat.le_refl _) _ _ _⟩

set_option maxHeartbeats 2000000 in
theorem ounequal_no {n : Int} {v : Value} {w : World} (h : n < 0 ∨ 30 < n) : Calls Tryz.prog 9 #[.int .i64 n, v] w (GivesFN w 2) := by
  have H := Lib.hid (show ¬ OccIn n 1 from by unfold OccIn; omega)
  clear h
  go_enter Tryz.func9, Tryz.ntmps9
  go_upto_region 1 with (fail)
  have hF0 := FBox.new w (.bool false) (.slice none 0 0) (.slice none 0 0) 28
  have x0 : Ext w (w.alloc (.cells #[.bool false, .slice none 0 0, .slice none 0 0] 28)) := ext_alloc (Below.refl _ _) _
  have hs0 : w.heap.size + 1 ≤ (w.alloc (.cells #[.bool false, .slice none 0 0, .slice none 0 0] 28)).heap.size := by simp
  generalize w.alloc (.cells #[.bool false, .slice none 0 0, .slice none 0 0] 28) = W0 at *
  have HF := Lib.hid (fun (w' : World) (h : Ext W0 w') => hF0.below h)
  have HE := Lib.hid x0
  have f0 : Ext W0 W0 := Below.refl _ _
  obtain ⟨r0, r1, r2, g0, g1, g2⟩ := hF0
  clear x0
  go_wp2_with (go_at_call 14; (with_reducible refine (ocheck_no H.out).mono ?_); rintro e w1 ⟨rfl, rfl⟩)
  obtain ⟨q0, q1, q2⟩ := set3 r0 r1 r2 (.bool false) (.slice none 0 0) (.slice none 0 0)
  refine bodyPost_ret (v := .tuple #[.agg #[.bool false, .slice none 0 0, .slice none 0 0], .int .i64 2]) (by simp [results, Tryz.results9, go_sem, q0, q1, q2]) rfl ?_
  exact ⟨rfl, ext_put HE.out (Nat.le_refl _) _ _ _⟩
set_option maxHeartbeats 4000000 in
theorem ounequal_arg {n : Int} {us : List Int} {A : Option Addr} {c : Nat} {w : World} (h : 0 ≤ n ∧ n ≤ 30) (hl : us.length ≤ 20) (hv : IntsV w (.slice A us.length c) us) (hu : ¬ (UsesIn us ∧ 1 ≤ us.length ∧ us.length ≤ 12)) : Calls Tryz.prog 9 #[.int .i64 n, .slice A us.length c] w (GivesFN w 1) := by
  have hcase : us.length < 1 ∨ (¬ us.length < 1 ∧ 12 < us.length) ∨ (¬ us.length < 1 ∧ ¬ 12 < us.length) := by omega
  rcases hcase with g1 | ⟨g1, g2⟩ | ⟨g1, g2⟩
  · have g3 : (us.length : Int) < 1 := by omega
    clear hu
    go_enter Tryz.func9, Tryz.ntmps9
    go_upto_region 1 with (fail)
    have hF0 := FBox.new w (.bool false) (.slice none 0 0) (.slice none 0 0) 28
    have x0 : Ext w (w.alloc (.cells #[.bool false, .slice none 0 0, .slice none 0 0] 28)) := ext_alloc (Below.refl _ _) _
    have hs0 : w.heap.size + 1 ≤ (w.alloc (.cells #[.bool false, .slice none 0 0, .slice none 0 0] 28)).heap.size := by simp
    generalize w.alloc (.cells #[.bool false, .slice none 0 0, .slice none 0 0] 28) = W0 at *
    have HF := Lib.hid (fun (w' : World) (h : Ext W0 w') => hF0.below h)
    have HE := Lib.hid x0
    have f0 : Ext W0 W0 := Below.refl _ _
    obtain ⟨r0, r1, r2, g0, g1, g2⟩ := hF0
    clear x0
    go_wp2_with (go_at_call 14; (with_reducible refine (ocheck_ok (n := n) (D := 1) (by omega) (by omega)).mono ?_); rintro e w1 ⟨rfl, rfl⟩)
    obtain ⟨q0, q1, q2⟩ := set3 r0 r1 r2 (.bool false) (.slice none 0 0) (.slice none 0 0)
    refine bodyPost_ret (v := .tuple #[.agg #[.bool false, .slice none 0 0, .slice none 0 0], .int .i64 1]) (by simp [results, Tryz.results9, go_sem, q0, q1, q2]) rfl ?_
    exact ⟨rfl, ext_put HE.out (Nat.le_refl _) _ _ _⟩
  · have g3 : (12 : Int) < (us.length : Int) := by omega
    have g4 : decide ((us.length : Int) < 1) = false := decide_eq_false (by omega)
    clear hu
    go_enter Tryz.func9, Tryz.ntmps9
    go_upto_region 1 with (fail)
    have hF0 := FBox.new w (.bool false) (.slice none 0 0) (.slice none 0 0) 28
    have x0 : Ext w (w.alloc (.cells #[.bool false, .slice none 0 0, .slice none 0 0] 28)) := ext_alloc (Below.refl _ _) _
    have hs0 : w.heap.size + 1 ≤ (w.alloc (.cells #[.bool false, .slice none 0 0, .slice none 0 0] 28)).heap.size := by simp
    generalize w.alloc (.cells #[.bool false, .slice none 0 0, .slice none 0 0] 28) = W0 at *
    have HF := Lib.hid (fun (w' : World) (h : Ext W0 w') => hF0.below h)
    have HE := Lib.hid x0
    have f0 : Ext W0 W0 := Below.refl _ _
    obtain ⟨r0, r1, r2, g0, g1, g2⟩ := hF0
    clear x0
    go_wp2_with (go_at_call 14; (with_reducible refine (ocheck_ok (n := n) (D := 1) (by omega) (by omega)).mono ?_); rintro e w1 ⟨rfl, rfl⟩)
    obtain ⟨q0, q1, q2⟩ := set3 r0 r1 r2 (.bool false) (.slice none 0 0) (.slice none 0 0)
    refine bodyPost_ret (v := .tuple #[.agg #[.bool false, .slice none 0 0, .slice none 0 0], .int .i64 1]) (by simp [results, Tryz.results9, go_sem, q0, q1, q2]) rfl ?_
    exact ⟨rfl, ext_put HE.out (Nat.le_refl _) _ _ _⟩
  · have HV := Lib.hid (fun (w' : World) (h : Ext w w') => hv.below h)
    have HU := Lib.hid (show ¬ UsesIn us from fun k => hu ⟨k, by omega, by omega⟩)
    have hlz3 : decide ((us.length : Int) < 1) = false := decide_eq_false (by omega)
    have hlz4 : decide ((12 : Int) < (us.length : Int)) = false := decide_eq_false (by omega)
    clear hv hu
    go_enter Tryz.func9, Tryz.ntmps9
    go_upto_region 1 with (fail)
    have hF0 := FBox.new w (.bool false) (.slice none 0 0) (.slice none 0 0) 28
    have x0 : Ext w (w.alloc (.cells #[.bool false, .slice none 0 0, .slice none 0 0] 28)) := ext_alloc (Below.refl _ _) _
    have hs0 : w.heap.size + 1 ≤ (w.alloc (.cells #[.bool false, .slice none 0 0, .slice none 0 0] 28)).heap.size := by simp
    generalize w.alloc (.cells #[.bool false, .slice none 0 0, .slice none 0 0] 28) = W0 at *
    have HF := Lib.hid (fun (w' : World) (h : Ext W0 w') => hF0.below h)
    have HE := Lib.hid x0
    have f0 : Ext W0 W0 := Below.refl _ _
    obtain ⟨r0, r1, r2, g0, g1, g2⟩ := hF0
    clear x0
    go_wp2_with (first
      | (go_at_call 14; (with_reducible refine (ocheck_ok (n := n) (D := 1) (by omega) (by omega)).mono ?_); rintro e w1 ⟨rfl, rfl⟩)
      | (go_at_call 26; (with_reducible refine (ocontains_no (HV.out _ HE.out) HU.out (by omega)).mono ?_); rintro e w1 ⟨rfl, rfl⟩))
    obtain ⟨q0, q1, q2⟩ := set3 r0 r1 r2 (.bool false) (.slice none 0 0) (.slice none 0 0)
    refine bodyPost_ret (v := .tuple #[.agg #[.bool false, .slice none 0 0, .slice none 0 0], .int .i64 1]) (by simp [results, Tryz.results9, go_sem, q0, q1, q2]) rfl ?_
    exact ⟨rfl, ext_put HE.out (Nat.le_refl _) _ _ _⟩

end Go.Proofs.YtglphodaoafdmaaGreatDoor
