/- fraction.Sum. -/
import Derived.Test.YtglphodaoafdmaaDoorFrlA
import Derived.Test.YtglphodaoafdmaaDoorOcB
set_option linter.unusedVariables false
set_option linter.unusedSimpArgs false
set_option maxRecDepth 100000
namespace Go.Proofs.YtglphodaoafdmaaDoor
open Go.RowKit Num

/-- A box that is written in a loop: a canonical fraction. -/
def FIs (W wr : World) (b : Nat) (q : Rat) : Prop := ∃ c A k l A' k' l', FBox wr b (.bool c) (.slice A k l) (.slice A' k' l') ∧ FracV wr c (.slice A k l) (.slice A' k' l') q ∧ Ext W wr ∧ New W.heap.size (.slice A k l) ∧ New W.heap.size (.slice A' k' l')
theorem zero_first : ((0 : Int) : Rat) / ((1 : Int) : Rat) = 0 := by decide +kernel
theorem sumQ_fb {f : Nat → Rat} {L : Nat} : ∀ {n : Nat}, (∀ k, k < n → FB (f k) L) → FB (sumQ f n) (3 + (L + 1) * n)
  | 0, _ => by
    have h : FB (((0 : Int) : Rat) / ((1 : Int) : Rat)) 3 := fb_i64 (by omega) (by omega)
    rw [zero_first] at h
    exact h.mono (by omega)
  | n + 1, h => by
    have h1 := sumQ_fb (n := n) fun k hk => h k (by omega)
    have h2 := FB.add h1 (h n (by omega)) (by omega)
    exact h2.mono (by rw [Nat.mul_succ]; omega)

set_option maxHeartbeats 4000000 in
theorem fsum_n {f : Nat → Rat} {n L B : Nat} {v : Value} {w : World} (hv : FracsV B w v (uptoQ f n)) (hL : ∀ k, k < n → FB (f k) L) (hn : n ≤ 100) (hLL : L ≤ 1000) :
    Calls Tryd.prog 27 #[v] w (GivesF w (sumQ f n)) := by
  have HL := Lib.hid hL
  have HB := Lib.hid (fun k (hk : k ≤ n) => (sumQ_fb (f := f) (L := L) (n := k) fun j hj => hL j (by omega)).mono (M := 200000) (by have : (L + 1) * k ≤ 1001 * 100 := Nat.mul_le_mul (by omega) (by omega); omega))
  obtain ⟨A, c, rfl, hc1, hc2⟩ := hv.form
  rw [uptoQ_length] at hv hc1 ⊢
  have HV := Lib.hid (fun (w' : World) (h : Ext w w') => hv.ext h)
  clear hv hL
  go_enter Tryd.func27, Tryd.ntmps27
  go_upto_region 1 with (fail)
  have hF0 := FBox.new w (.bool false) (.slice none 0 0) (.slice none 0 0) 31
  have x0 : Ext w (w.alloc (.cells #[.bool false, .slice none 0 0, .slice none 0 0] 31)) := ext_alloc (Below.refl _ _) _
  have hs0 : w.heap.size + 1 ≤ (w.alloc (.cells #[.bool false, .slice none 0 0, .slice none 0 0] 31)).heap.size := by simp
  generalize w.alloc (.cells #[.bool false, .slice none 0 0, .slice none 0 0] 31) = W0 at *
  have HF := Lib.hid (fun (w' : World) (h : Ext W0 w') => hF0.below h)
  have HE := Lib.hid x0
  have f0 : Ext W0 W0 := Below.refl _ _
  obtain ⟨r0, r1, r2, g0, g1, g2⟩ := hF0
  clear x0
  go_wp2_with fail
  refine (fof_n (n := 0) (d := 1) (by omega) (by omega)).mono ?_
  rintro e w6 ⟨b6, A6, k6, c6, A6', k6', c6', rfl, h6, y6, n6, n6'⟩
  rw [zero_first] at h6
  have hlo : W0.heap.size ≤ w6.heap.size := y6.size
  go_wp2
  have hG6 := FBox.new w6 (.bool b6) (.slice A6 k6 c6) (.slice A6' k6' c6') 31
  have Y6 : Ext W0 (w6.alloc (.cells #[.bool b6, .slice A6 k6 c6, .slice A6' k6' c6'] 31)) := ext_alloc y6 _
  have h6 := h6.below (ext_alloc (Below.refl _ _) (.cells #[.bool b6, .slice A6 k6 c6, .slice A6' k6' c6'] 31))
  have hsz6 : w6.heap.size < (w6.alloc (.cells #[.bool b6, .slice A6 k6 c6, .slice A6' k6' c6'] 31)).heap.size := by simp
  generalize w6.alloc (.cells #[.bool b6, .slice A6 k6 c6, .slice A6' k6' c6'] 31) = W6 at *
  generalize w6.heap.size = B6 at *
  go_loopw [9] (fun iv wr => ∃ k : Nat, k ≤ n ∧ iv = .int .i64 k ∧ FIs W0 wr B6 (sumQ f k)) (fun iv _ => n - (intOf iv).toNat)
  case atStart => exact ⟨0, Nat.zero_le _, rfl, b6, A6, k6, c6, A6', k6', c6', hG6, h6, Y6, n6, n6'⟩
  case round =>
    clear hG6 h6 Y6 n6 n6'
    obtain ⟨k, hk, rfl, cc, MA, mk, ml, MA', mk', ml', hM, vM, xM, nM, nM'⟩ := hrel
    have HM := Lib.hid (fun (w' : World) (h : Ext wr w') => hM.below h)
    have hMl := hM.lt
    obtain ⟨m0, m1, m2, gm0, gm1, gm2⟩ := hM
    by_cases hkl : k < n
    · have HMV := Lib.hid (fun (w' : World) (h : Ext wr w') => FracV.any (vM.below h) (HB.out k (by omega)) (by omega))
      have hX := xM
      clear vM
      obtain ⟨b, o, neg, A1, k1, c1, A2, k2, c2, rfl, hb, e0, e1, e2, fv, _, _⟩ := (HV.out _ (HE.out.trans xM)).at_ (uptoQ_at hkl)
      have hi1 : (0 : Int) ≤ (k : Int) := by omega
      have hi2 : (k : Int) < (n : Int) := by omega
      have HFV := Lib.hid (fun (w' : World) (h : Ext wr w') => FracV.any (fv.below h) (HL.out k hkl) (by omega))
      clear fv
      go_upto_region 5 with (fail)
      have hN7 := FBox.new wr (.bool neg) (.slice A1 k1 c1) (.slice A2 k2 c2) 31
      have X7 : Ext wr (wr.alloc (.cells #[.bool neg, .slice A1 k1 c1, .slice A2 k2 c2] 31)) := ext_alloc (Below.refl _ _) _
      have hs7 : wr.heap.size + 1 ≤ ((wr.alloc (.cells #[.bool neg, .slice A1 k1 c1, .slice A2 k2 c2] 31))).heap.size := by simp
      generalize (wr.alloc (.cells #[.bool neg, .slice A1 k1 c1, .slice A2 k2 c2] 31)) = W7 at *
      obtain ⟨t0, t1, t2, _, _, _⟩ := hN7
      obtain ⟨m0, m1, m2, gm0, gm1, gm2⟩ := HM.out _ X7
      go_wp2_with (go_at_call 25; (with_reducible refine (add_f (HMV.out _ X7) (HFV.out _ X7) (HB.out k (by omega)) (HL.out k hkl) (by omega)).mono ?_); rintro _ s2 ⟨b8, A8, k8, c8, B8, l8, d8, rfl, h8, z2, n8, m8⟩; have f2 : Ext wr s2 := X7.trans z2; obtain ⟨m0, m1, m2, gm0, gm1, gm2⟩ := HM.out _ f2)
      go_roundw
      all_goals first
        | exact ⟨k + 1, by omega, by go_num, b8, A8, k8, c8, B8, l8, d8, (HM.out _ f2).put _ _ _, FracV.put h8 n8 m8 (by have := X7.size; omega) _ _ _, ext_put (hX.trans f2) (by omega) _ _ _, n8.mono (by have := hX.size; have := X7.size; omega), m8.mono (by have := hX.size; have := X7.size; omega)⟩
        | (simp [intOf]; omega)
    · obtain rfl : k = n := by omega
      obtain ⟨r0, r1, r2, g0, g1, g2⟩ := HF.out _ xM
      go_wp2
      obtain ⟨q0, q1, q2⟩ := set3 r0 r1 r2 (.bool cc) (.slice MA mk ml) (.slice MA' mk' ml')
      refine bodyPost_ret (v := .agg #[.bool cc, .slice MA mk ml, .slice MA' mk' ml']) (by simp [results, Tryd.results27, go_sem, q0, q1, q2]) rfl ?_
      exact GivesF.box (B := w.heap.size) (HE.out.trans xM) vM (nM.mono (by omega)) (nM'.mono (by omega)) (Nat.le_refl _)

end Go.Proofs.YtglphodaoafdmaaDoor
