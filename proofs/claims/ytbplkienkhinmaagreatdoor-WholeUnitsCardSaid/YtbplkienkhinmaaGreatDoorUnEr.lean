/- Units of weight: Error. -/
import Derived.Test.YtbplkienkhinmaaGreatDoorUnE
set_option linter.unusedVariables false
set_option linter.unusedSimpArgs false
set_option maxRecDepth 100000
namespace Go.Proofs.YtbplkienkhinmaaGreatDoor
open Go.RowKit Num

theorem zero_firstU : ((0 : Int) : Rat) / ((1 : Int) : Rat) = 0 := by decide +kernel
theorem err_fb {u : Rat} {m : Nat} (hm : m ≤ 24) (hf : FB u 3) : ∀ (l : List Int), Wts l → FB (errTo u m l) 10 := by
  have key : ∀ (l : List Int) (g : Rat), Wts l → FB g 10 → FB (l.foldl (fun g w => if g < absQ (restTo w u (m - 1)) then absQ (restTo w u (m - 1)) else g) g) 10 := by
    intro l
    induction l with
    | nil => intro g _ hg; exact hg
    | cons w l ih =>
      intro g hw hg
      rw [List.foldl_cons]
      refine ih _ (fun v hv => hw v (List.mem_cons_of_mem _ hv)) ?_
      have h1 := hw w (List.mem_cons_self ..)
      split
      · exact absQ_fb (rest_fb h1.1 h1.2 hf (m - 1) (by omega))
      · exact hg
  intro l hw
  exact key l 0 hw (fb_zero.mono (by omega))

set_option maxHeartbeats 8000000 in
theorem uerror_ok {b : Bool} {s t : Value} {u : Rat} {l : List Int} {m : Nat} {A : Option Addr} {c : Nat} {w : World} (hv : IntsV w (.slice A l.length c) l) (hw : Wts l) (hl1 : 1 ≤ l.length) (hl : l.length ≤ 64) (hu : AnyF w b s t u 3) (hf : FB u 3) (hp : 0 < u) (h5 : 1 ≤ m) (h6 : m ≤ 24) :
    Calls Tryz.prog 11 #[.slice A l.length c, .agg #[.bool b, s, t], .int .i64 m] w (GivesFE w (errTo u m l)) := by
  have HCH := Lib.hid (fun (w' : World) (h : Ext w w') => ucheck_ok (hv.below h) hw (by omega))
  have HLI := Lib.hid (fun (w' : World) => ulimits_ok (tol := 0) (m := m) (w := w') (by omega) (by omega) (by omega) (by omega))
  have HUN := Lib.hid (fun (w' : World) (h : Ext w w') => uunit_t (hu.below h) hp)
  have HMU := Lib.hid (fun (v : Int) (hm : v ∈ l) (w' : World) (h : Ext w w') => umultiple (hu.below h) hf hp (hw v hm).1 (hw v hm).2 h5 h6)
  have HRF := Lib.hid (fun (v : Int) (hm : v ∈ l) => rest_fb (hw v hm).1 (hw v hm).2 hf (m - 1) (by omega))
  have HEF := Lib.hid (fun (k : Nat) => err_fb h6 hf (l.take k) fun v hv => hw v (List.mem_of_mem_take hv))
  have HV := Lib.hid hv
  have hlz : ((l.length : Int) == 0) = false := by rw [beq_eq_false_iff_ne]; omega
  have hlz' : ¬ (l.length = 0) := by omega
  clear hv hw hu hf hp
  go_enter Tryz.func11, Tryz.ntmps11
  go_upto_region 1 with (fail)
  have hB0 := (FBox.new w (.bool b) (s) (t) 27).below (ext_alloc (Below.refl _ _) (.cells #[.bool false, .slice none 0 0, .slice none 0 0] 27))
  have hB1 := FBox.new (w.alloc (.cells #[.bool b, s, t] 27)) (.bool false) (.slice none 0 0) (.slice none 0 0) 27
  rw [show (w.alloc (.cells #[.bool b, s, t] 27)).heap.size = w.heap.size + 1 from by simp] at hB1
  have x0 : Ext w ((w.alloc (.cells #[.bool b, s, t] 27)).alloc (.cells #[.bool false, .slice none 0 0, .slice none 0 0] 27)) := ext_alloc (ext_alloc (Below.refl _ _) _) _
  have hs0 : w.heap.size + 1 + 1 ≤ ((w.alloc (.cells #[.bool b, s, t] 27)).alloc (.cells #[.bool false, .slice none 0 0, .slice none 0 0] 27)).heap.size := by simp
  generalize ((w.alloc (.cells #[.bool b, s, t] 27)).alloc (.cells #[.bool false, .slice none 0 0, .slice none 0 0] 27)) = W0 at *
  have HB0 := Lib.hid (fun (w' : World) (h : Ext W0 w') => hB0.below h)
  obtain ⟨c00, c01, c02, d00, d01, d02⟩ := hB0
  have HF := Lib.hid (fun (w' : World) (h : Ext W0 w') => hB1.below h)
  obtain ⟨r0, r1, r2, g0, g1, g2⟩ := hB1
  have HE := Lib.hid x0
  clear x0
  have f0 : Ext W0 W0 := Below.refl _ _
  go_upto_region 10 with (first
    | (go_at_call 19; (with_reducible refine (HCH.out W0 HE.out).mono ?_); rintro e w1 ⟨rfl, hw1⟩; obtain rfl : W0 = w1 := hw1.symm)
    | (go_at_call 22; (with_reducible refine (HUN.out _ HE.out).mono ?_); rintro e w2 ⟨rfl, x2⟩)
    | (go_at_call 20; (with_reducible refine (HLI.out w2).mono ?_); rintro e w3 ⟨rfl, hw3⟩; obtain rfl : w2 = w3 := hw3.symm))
  go_wp2_with fail
  refine (uwhole_n (n := 0) (by omega)).mono ?_
  rintro e w6 ⟨b6, A6, k6, c6, A6', k6', c6', rfl, h6_, y6, n6, n6'⟩
  rw [zero_firstU] at h6_
  have hz2 : w.heap.size + 1 + 1 ≤ w2.heap.size := by have := x2.size; omega
  have HX2 := Lib.hid (HE.out.trans x2)
  have HF2 := Lib.hid (fun (w' : World) (h : Ext w2 w') => HF.out w' (x2.trans h))
  have HU2 := Lib.hid (fun (w' : World) (h : Ext w2 w') => HB0.out w' (x2.trans h))
  clear c00 c01 c02 d00 d01 d02 r0 r1 r2 g0 g1 g2 x2
  go_upto_region 11 with (fail)
  have hG6 := FBox.new w6 (.bool b6) (.slice A6 k6 c6) (.slice A6' k6' c6') 27
  have Y6 : Ext w2 (w6.alloc (.cells #[.bool b6, .slice A6 k6 c6, .slice A6' k6' c6'] 27)) := ext_alloc y6 _
  have h6_ := h6_.below (ext_alloc (Below.refl _ _) (.cells #[.bool b6, .slice A6 k6 c6, .slice A6' k6' c6'] 27))
  have hB6 : w2.heap.size ≤ w6.heap.size := y6.size
  generalize w6.alloc (.cells #[.bool b6, .slice A6 k6 c6, .slice A6' k6' c6'] 27) = W6 at *
  generalize w6.heap.size = B6 at *
  clear y6
  go_wp2
  go_loopw [40] (fun iv wr => ∃ k : Nat, k ≤ l.length ∧ iv = .int .i64 k ∧ FIu w2 wr B6 (errTo u m (l.take k))) (fun iv _ => l.length - (intOf iv).toNat)
  case atStart => exact ⟨0, Nat.zero_le _, rfl, b6, A6, k6, c6, A6', k6', c6', hG6, by rw [List.take_zero]; exact h6_, Y6, n6, n6'⟩
  case round =>
    clear hG6 h6_ Y6 n6 n6'
    obtain ⟨k, hk, rfl, cc, MA, mk, ml, MA', mk', ml', hM, vM, xM, nM, nM'⟩ := hrel
    have HM := Lib.hid (fun (w' : World) (h : Ext wr w') => hM.below h)
    have HMV := Lib.hid (fun (w' : World) (h : Ext wr w') => vM.below h)
    have hMl := hM.lt
    have HXM := Lib.hid xM
    have HNM := Lib.hid (And.intro nM nM')
    clear hM vM xM nM nM'
    by_cases hkl : k < l.length
    · obtain ⟨bb, o, rfl, hb, hc⟩ := ints_pl HV.out hkl
      obtain ⟨x, hxe⟩ : ∃ x, x = l.getD k 0 := ⟨_, rfl⟩
      have hxa := getD_atU hkl
      have hxm := getD_memU hkl
      rw [← hxe] at hc hxa hxm
      have hc' := ((HX2.out.trans HXM.out).cell (p := ⟨bb, o + k, none⟩) hb).trans hc
      have hi1 : (0 : Int) ≤ (k : Int) := by omega
      have hi2 : (k : Int) < (l.length : Int) := by omega
      have HXA := Lib.hid (err_succ u m l hxa)
      have HC := Lib.hid (HMU.out x hxm _ (HX2.out.trans HXM.out))
      have HXF := Lib.hid (HRF.out x hxm)
      obtain ⟨c00, c01, c02, _, _, _⟩ := HU2.out _ HXM.out
      clear hxa hxm hc hxe
      obtain ⟨zz, hzz⟩ : ∃ zz, zz = cmpQ (absQ (restTo x u (m - 1))) (errTo u m (l.take k)) := ⟨_, rfl⟩
      have hcz : 0 < zz ↔ errTo u m (l.take k) < absQ (restTo x u (m - 1)) := by rw [hzz]; exact cmpQ_pos _ _
      have HZZ := Lib.hid hzz.symm
      clear hzz
      go_wp2_with fail
      refine HC.out.mono ?_
      rintro e w7 ⟨z7, b7, A7, k7, c7, A7', k7', c7', rfl, h7, y7, n7, n7'⟩
      clear n7 n7'
      go_upto_region 15 with (fail)
      have hG7 := FBox.new w7 (.bool b7) (.slice A7 k7 c7) (.slice A7' k7' c7') 27
      have Y7 : Ext wr (w7.alloc (.cells #[.bool b7, .slice A7 k7 c7, .slice A7' k7' c7'] 27)) := ext_alloc y7 _
      have h7 := h7.below (ext_alloc (Below.refl _ _) (.cells #[.bool b7, .slice A7 k7 c7, .slice A7' k7' c7'] 27))
      have hsz7 : w7.heap.size < (w7.alloc (.cells #[.bool b7, .slice A7 k7 c7, .slice A7' k7' c7'] 27)).heap.size := by simp
      generalize w7.alloc (.cells #[.bool b7, .slice A7 k7 c7, .slice A7' k7' c7'] 27) = W7 at *
      generalize w7.heap.size = B7 at *
      have HY7 := Lib.hid Y7
      obtain ⟨p0, p1, p2, _, _, _⟩ := hG7
      clear y7 hsz7 c00 c01 c02
      go_wp2_with fail
      refine (udist (FracV.any h7 HXF.out (by omega)) (by omega)).mono ?_
      rintro e w8 ⟨b8, A8, k8, c8, A8', k8', c8', rfl, h8, y8, n8, n8'⟩
      clear p0 p1 p2 h7
      go_upto_region 16 with (fail)
      have hG8 := FBox.new w8 (.bool b8) (.slice A8 k8 c8) (.slice A8' k8' c8') 27
      have Y8 : Ext W7 (w8.alloc (.cells #[.bool b8, .slice A8 k8 c8, .slice A8' k8' c8'] 27)) := ext_alloc y8 _
      have h8 := h8.below (ext_alloc (Below.refl _ _) (.cells #[.bool b8, .slice A8 k8 c8, .slice A8' k8' c8'] 27))
      have hsz8 : w8.heap.size < (w8.alloc (.cells #[.bool b8, .slice A8 k8 c8, .slice A8' k8' c8'] 27)).heap.size := by simp
      generalize w8.alloc (.cells #[.bool b8, .slice A8 k8 c8, .slice A8' k8' c8'] 27) = W8 at *
      generalize w8.heap.size = B8 at *
      have HG8 := Lib.hid (fun (w' : World) (h : Ext W8 w') => hG8.below h)
      have HV8 := Lib.hid (fun (w' : World) (h : Ext W8 w') => h8.below h)
      have HN8 := Lib.hid (And.intro n8 n8')
      have HX8 := Lib.hid (HY7.out.trans Y8)
      have hB67 : B6 < W7.heap.size := by have := HY7.out.size; omega
      have HC9 := Lib.hid (cmp_e (L := 10) (M := 10) (FracV.any h8 (absQ_fb HXF.out) (by omega)) (FracV.any (HMV.out _ HX8.out) (HEF.out k) (by omega)) (by omega) HZZ.out)
      obtain ⟨p0, p1, p2, _, _, _⟩ := hG8
      obtain ⟨m0, m1, m2, gm0, gm1, gm2⟩ := HM.out _ HX8.out
      clear y8 hsz8 n8 n8' h8 Y8 Y7 hc'
      by_cases hq : errTo u m (l.take k) < absQ (restTo x u (m - 1))
      · have hz0 : 0 < zz := hcz.2 hq
        have HNX := Lib.hid (show errTo u m (l.take (k + 1)) = absQ (restTo x u (m - 1)) from by rw [HXA.out, if_pos hq])
        clear hcz hq
        go_wp2_with (go_at_call 9; (with_reducible refine HC9.out.mono ?_); rintro e w9 ⟨rfl, x9⟩; obtain ⟨p0, p1, p2, _, _, _⟩ := HG8.out _ x9; obtain ⟨m0, m1, m2, gm0, gm1, gm2⟩ := HM.out _ (HX8.out.trans x9))
        go_roundw
        case rel => exact ⟨k + 1, by omega, by go_num, b8, A8, k8, c8, A8', k8', c8', FBox.put (HM.out _ (HX8.out.trans x9)) _ _ _, by rw [HNX.out]; exact FracV.put (HV8.out _ x9) HN8.out.1 HN8.out.2 hB67 _ _ _, ext_put (HXM.out.trans (HX8.out.trans x9)) hB6 _ _ _, HN8.out.1.mono (HXM.out.trans HY7.out).size, HN8.out.2.mono (HXM.out.trans HY7.out).size⟩
        case measure => simp [intOf]; omega
      · have hz0 : ¬ 0 < zz := fun h => hq (hcz.1 h)
        have HNX := Lib.hid (show errTo u m (l.take (k + 1)) = errTo u m (l.take k) from by rw [HXA.out, if_neg hq])
        clear hcz hq
        go_wp2_with (go_at_call 9; (with_reducible refine HC9.out.mono ?_); rintro e w9 ⟨rfl, x9⟩)
        go_roundw
        case rel => exact ⟨k + 1, by omega, by go_num, cc, MA, mk, ml, MA', mk', ml', HM.out _ (HX8.out.trans x9), by rw [HNX.out]; exact HMV.out _ (HX8.out.trans x9), HXM.out.trans (HX8.out.trans x9), HNM.out.1, HNM.out.2⟩
        case measure => simp [intOf]; omega
    · obtain rfl : l.length = k := by omega
      have hnn : ¬ ((l.length : Int) < (l.length : Int)) := by omega
      have hV := HMV.out _ (Below.refl _ _)
      rw [List.take_length] at hV
      have HV9 := Lib.hid hV
      clear hV
      obtain ⟨m0, m1, m2, gm0, gm1, gm2⟩ := HM.out _ (Below.refl _ _)
      obtain ⟨r0, r1, r2, g0, g1, g2⟩ := HF2.out _ HXM.out
      go_wp2
      obtain ⟨q0, q1, q2⟩ := set3 r0 r1 r2 (.bool cc) (.slice MA mk ml) (.slice MA' mk' ml')
      refine bodyPost_ret (v := .tuple #[.agg #[.bool cc, .slice MA mk ml, .slice MA' mk' ml'], .int .i64 0]) (by simp [results, Tryz.results11, go_sem, q0, q1, q2]) rfl ?_
      exact GivesFE.box (B := w.heap.size + 1) (HX2.out.trans HXM.out) HV9.out (HNM.out.1.mono (by omega)) (HNM.out.2.mono (by omega)) (by omega)

end Go.Proofs.YtbplkienkhinmaaGreatDoor
