/- law: MetalMatchesReference. -/
import Derived.Test.YtmfigiifflljpaaMetV
import Derived.Test.YtmfigiifflljpaaMetJ
import Derived.Test.YtmfigiifflljpaaMetZ
set_option linter.unusedVariables false
set_option linter.unusedSimpArgs false
set_option maxRecDepth 100000
namespace Go.Proofs.Ytmfigiifflljpaa
open Go.RowKit Num

/-- A fraction, as cells, and an error code. -/
def GivesPW (w : World) (b : Bool) (n d : Nat) (er : Int) (e : Ending) (w' : World) : Prop :=
  ∃ A k c A' k' c', e = .returned (.tuple #[.agg #[.bool b, .slice A k c, .slice A' k' c'], .int .i64 er]) ∧ CanV w' (.slice A k c) n ∧ CanV w' (.slice A' k' c') d ∧ Ext w w'
theorem GivesFE.pw {w w' : World} {q : Rat} {e : Ending} (h : GivesFE w q e w') : GivesPW w (decide (q < 0)) q.num.natAbs q.den 0 e w' := by
  obtain ⟨b, A, k, c, A', k', c', rfl, ⟨rfl, h1, h2⟩, hE, _, _⟩ := h
  exact ⟨A, k, c, A', k', c', rfl, h1, h2, hE⟩
theorem GivesFW.pw {w w' : World} {q : Rat} {e : Ending} (h : GivesFW w q e w') : GivesPW w (decide (q < 0)) q.num.natAbs q.den 0 e w' := by
  obtain ⟨b, A, k, c, A', k', c', rfl, ⟨rfl, h1, h2⟩, hE⟩ := h
  exact ⟨A, k, c, A', k', c', rfl, h1, h2, hE⟩
theorem GivesFN.pw {w w' : World} {er : Int} {e : Ending} (h : GivesFN w er e w') : GivesPW w false 0 0 er e w' :=
  ⟨_, _, _, _, _, _, h.1, CanV.nil_ _, CanV.nil_ _, h.2⟩
theorem GivesM.none {w w' : World} {C : Nat} {M : Mx} {er : Int} {e : Ending} (h : e = .returned (.tuple #[.slice none 0 0, .int .i64 er]) ∧ Ext w w') : GivesM w 0 C M er e w' := ⟨_, _, h.1, EMat.nil_ _ _ _ _, h.2⟩
theorem mdet_noM {v : Value} {ls : List Nat} {w : World} (hv : LMat w v ls) (hl : ¬ validL ls ∨ ls.headD 0 ≠ ls.length) :
    Calls Try.prog 17 #[v] w (GivesFN w 1) := by
  have HVA := Lib.hid (fun (w' : World) (h : Ext w w') => mvalid_l (hv.below h))
  have HCO := Lib.hid (fun (w' : World) (h : Ext w w') => mcols_l (hv.below h))
  obtain ⟨A, cap, rfl, hc1, hc2⟩ := hv.form
  clear hv
  obtain ⟨c, hc⟩ : ∃ c, c = ls.headD 0 := ⟨_, rfl⟩
  obtain ⟨m, hm⟩ : ∃ m, m = ls.length := ⟨_, rfl⟩
  rw [← hc] at hl HCO
  rw [← hm] at hl HCO HVA hc1 ⊢
  obtain ⟨b, hb⟩ : ∃ b, b = decide (validL ls) := ⟨_, rfl⟩
  rw [← hb] at HVA
  have hb' : b = true → ((c : Int) != (m : Int)) = true := fun h => by
    rcases hl with hl | hl
    · exact absurd (of_decide_eq_true (hb.symm.trans h)) hl
    · rw [bne_iff_ne]; omega
  clear hb hc hl hm
  go_enter Try.func17, Try.ntmps17
  go_upto_region 1 with (fail)
  have hF0 := FBox.new w (.bool false) (.slice none 0 0) (.slice none 0 0) 34
  have x0 : Ext w (w.alloc (.cells #[.bool false, .slice none 0 0, .slice none 0 0] 34)) := ext_alloc (Below.refl _ _) _
  have hs0 : w.heap.size + 1 ≤ (w.alloc (.cells #[.bool false, .slice none 0 0, .slice none 0 0] 34)).heap.size := by simp
  generalize w.alloc (.cells #[.bool false, .slice none 0 0, .slice none 0 0] 34) = W0 at *
  have HF := Lib.hid (fun (w' : World) (h : Ext W0 w') => hF0.below h)
  have HE := Lib.hid x0
  have f0 : Ext W0 W0 := Below.refl _ _
  obtain ⟨r0, r1, r2, g0, g1, g2⟩ := hF0
  clear x0
  cases b with
  | false =>
    clear hb'
    go_wp2_with (go_at_call 21; (with_reducible refine (HVA.out _ HE.out).mono ?_); rintro e w1 ⟨rfl, x1⟩; obtain ⟨r0, r1, r2, g0, g1, g2⟩ := HF.out _ x1)
    obtain ⟨q0, q1, q2⟩ := set3 r0 r1 r2 (.bool false) (.slice none 0 0) (.slice none 0 0)
    refine bodyPost_ret (v := .tuple #[.agg #[.bool false, .slice none 0 0, .slice none 0 0], .int .i64 1]) (by simp [results, Try.results17, go_sem, q0, q1, q2]) rfl ?_
    exact ⟨rfl, ext_put (HE.out.trans x1) (by omega) _ _ _⟩
  | true =>
    have hmm := hb' rfl
    have hm' : ¬ (c = m) := by rw [bne_iff_ne] at hmm; omega
    clear hb'
    go_wp2_with (first
      | (go_at_call 21; (with_reducible refine (HVA.out _ HE.out).mono ?_); rintro e w1 ⟨rfl, x1⟩; obtain ⟨r0, r1, r2, g0, g1, g2⟩ := HF.out _ x1)
      | (go_at_call 44; (with_reducible refine (HCO.out _ (HE.out.trans x1)).mono ?_); rintro e w2 ⟨rfl, hw2⟩; obtain rfl : w1 = w2 := hw2.symm))
    obtain ⟨q0, q1, q2⟩ := set3 r0 r1 r2 (.bool false) (.slice none 0 0) (.slice none 0 0)
    refine bodyPost_ret (v := .tuple #[.agg #[.bool false, .slice none 0 0, .slice none 0 0], .int .i64 1]) (by simp [results, Try.results17, go_sem, q0, q1, q2]) rfl ?_
    exact ⟨rfl, ext_put (HE.out.trans x1) (by omega) _ _ _⟩
/-- What both give, whatever it is. -/
theorem both_data {v : Value} {n : Nat} {len : Nat → Nat} {F : Nat → Nat → FracIn} {w : World} (hv : InMat w v n len F) (hf : fewM n len F) :
    ∃ (r e0 : Int) (n1 c1 : Nat) (M1 : Mx) (e1 : Int) (b : Bool) (m k : Nat) (e2 : Int) (vb : Bool), n1 ≤ 100 ∧
      (∀ w', Ext w w' → Calls Try.prog 13 #[v] w' (fun e w'' => e = .returned (.tuple #[.int .i64 r, .int .i64 e0]) ∧ Ext w' w'')) ∧
      (∀ w', Ext w w' → Calls Try.prog 14 #[v] w' (fun e w'' => e = .returned (.tuple #[.int .i64 r, .int .i64 e0]) ∧ Ext w' w'')) ∧
      (∀ w', Ext w w' → Calls Try.prog 15 #[v] w' (GivesM w' n1 c1 M1 e1)) ∧
      (∀ w', Ext w w' → Calls Try.prog 16 #[v] w' (GivesM w' n1 c1 M1 e1)) ∧
      (∀ w', Ext w w' → Calls Try.prog 17 #[v] w' (GivesPW w' b m k e2)) ∧
      (∀ w', Ext w w' → Calls Try.prog 18 #[v] w' (GivesPW w' b m k e2)) ∧
      (∀ w', Ext w w' → Calls Try.prog 21 #[v] w' (fun e w'' => e = .returned (.bool vb) ∧ Ext w' w'')) ∧
      (∀ w', Ext w w' → Calls Try.prog 22 #[v] w' (fun e w'' => e = .returned (.bool vb) ∧ Ext w' w'')) := by
  have HL : ∀ w', Ext w w' → LMat w' v (lensOf n len) := fun w' h => (hv.below h).lens
  by_cases hvl : validL (lensOf n len)
  · obtain ⟨hn4, c, hc4, hz, hl, hs, hhd⟩ := few_valid hf hvl
    have HE : ∀ w', Ext w w' → EMat false w' v n c (fun i j => fxQ (F i j)) := fun w' h => ((hv.below h).emat hl hs).1
    have hfb := (hv.emat hl hs).2
    by_cases hsq : n = c
    · subst hsq
      exact ⟨_, _, _, _, _, _, _, _, _, _, _, (by omega : n ≤ 100), fun w' h => mrank_ok (HE w' h) (Nat.le_refl 3) (by omega) hfb (by omega) (by omega) hz, fun w' h => rrank_ok (HE w' h) (Nat.le_refl 3) (by omega) hfb (by omega) (by omega) hz, fun w' h => mreduce_ok (HE w' h) (Nat.le_refl 3) (by omega) hfb (by omega) (by omega) hz, fun w' h => rreduce_ok (HE w' h) (Nat.le_refl 3) (by omega) hfb (by omega) (by omega) hz, fun w' h => (mdet_ok (HE w' h) (Nat.le_refl 3) (by omega) hfb (by omega)).mono fun e w'' h => GivesFE.pw h, fun w' h => (rdet_ok (HE w' h) (Nat.le_refl 3) (by omega) hfb (by omega)).mono fun e w'' h => GivesFW.pw h, fun w' h => mvalid_l (HL w' h), fun w' h => rvalid_l (HL w' h)⟩
    · have hno : ¬ validL (lensOf n len) ∨ (lensOf n len).headD 0 ≠ (lensOf n len).length := .inr (by rw [hhd, lensOf_length]; omega)
      exact ⟨_, _, _, _, _, _, _, _, _, _, _, (by omega : n ≤ 100), fun w' h => mrank_ok (HE w' h) (Nat.le_refl 3) (by omega) hfb (by omega) (by omega) hz, fun w' h => rrank_ok (HE w' h) (Nat.le_refl 3) (by omega) hfb (by omega) (by omega) hz, fun w' h => mreduce_ok (HE w' h) (Nat.le_refl 3) (by omega) hfb (by omega) (by omega) hz, fun w' h => rreduce_ok (HE w' h) (Nat.le_refl 3) (by omega) hfb (by omega) (by omega) hz, fun w' h => (mdet_noM (HL w' h) hno).mono fun e w'' h => GivesFN.pw h, fun w' h => (rdet_no (HL w' h) hno).mono fun e w'' h => GivesFN.pw h, fun w' h => mvalid_l (HL w' h), fun w' h => rvalid_l (HL w' h)⟩
  · exact ⟨0, 1, 0, 0, fun _ _ => 0, 1, _, _, _, _, _, Nat.zero_le _, fun w' h => mrank_no (HL w' h) hvl, fun w' h => rrank_no (HL w' h) hvl, fun w' h => (mreduce_no (HL w' h) hvl).mono fun e w'' h => GivesM.none h, fun w' h => (rreduce_no (HL w' h) hvl).mono fun e w'' h => GivesM.none h, fun w' h => (mdet_noM (HL w' h) (.inl hvl)).mono fun e w'' h => GivesFN.pw h, fun w' h => (rdet_no (HL w' h) (.inl hvl)).mono fun e w'' h => GivesFN.pw h, fun w' h => mvalid_l (HL w' h), fun w' h => rvalid_l (HL w' h)⟩
set_option maxHeartbeats 8000000 in
theorem law_MMatches {v : Value} {z : Nat × (Nat → Nat) × (Nat → Nat → FracIn)} {w : World} (hv : InMat w v z.1 z.2.1 z.2.2) :
    Calls Try.prog 3 #[v] w (fun e w' => e = .returned (.bool true) ∧ Ext w w') := by
  obtain ⟨n, len, F⟩ := z
  simp only at hv
  have HV := Lib.hid (fun (w' : World) (h : Ext w w') => hv.below h)
  have HFW := Lib.hid (fun (w' : World) (h : Ext w w') => rfew_l (hv.below h))
  have HLN := Lib.hid (fun (w' : World) (h : Ext w w') => (hv.below h).lens)
  obtain ⟨A, cap, rfl, hc1, hc2⟩ := hv.form
  by_cases hf : fewM n len F
  · obtain ⟨r, er0, n1, c1, M1, er1, b, m, k, er2, vb, hn1, c_1, c_2, c_3, c_4, c_5, c_6, c_7, c_8⟩ := both_data hv hf
    have H1 := Lib.hid c_1
    have H2 := Lib.hid c_2
    have H3 := Lib.hid c_3
    have H4 := Lib.hid c_4
    have H5 := Lib.hid c_5
    have H6 := Lib.hid c_6
    have H7 := Lib.hid c_7
    have H8 := Lib.hid c_8
    have HF := Lib.hid hf
    have hrr : (r == r) = true := by simp
    have h00 : (er0 == er0) = true := by simp
    have h11 : (er1 == er1) = true := by simp
    have h22 : (er2 == er2) = true := by simp
    clear hv hf c_1 c_2 c_3 c_4 c_5 c_6 c_7 c_8
    go_enter Try.func3, Try.ntmps3
    go_upto_region 9 with (first
            | (go_at_call 12; (with_reducible refine (HFW.out _ x1).mono ?_); rintro e w2 hgb; obtain ⟨rfl, x2⟩ := hgb.t HF.out)
            | (go_at_call 13; (with_reducible refine (H1.out _ (x1.trans x2)).mono ?_); rintro e w3 ⟨rfl, x3⟩)
            | (go_at_call 14; (with_reducible refine (H2.out _ ((x1.trans x2).trans x3)).mono ?_); rintro e w4 ⟨rfl, x4⟩)
            | (go_at_call 15; (with_reducible refine (H3.out _ ((x1.trans x2).trans (x3.trans x4))).mono ?_); rintro e w5 ⟨A5, c5, rfl, h5, x5⟩)
            | (go_at_call 16; (with_reducible refine (H4.out _ (((x1.trans x2).trans (x3.trans x4)).trans x5)).mono ?_); rintro e w6 ⟨A6, c6, rfl, h6, x6⟩)
            | (go_at_call 17; (with_reducible refine (H5.out _ (((x1.trans x2).trans (x3.trans x4)).trans (x5.trans x6))).mono ?_); rintro e w7 ⟨A7, k7, c7, B7, l7, d7, rfl, h7, g7, x7⟩)
            | (go_at_call 18; (with_reducible refine (H6.out _ ((((x1.trans x2).trans (x3.trans x4)).trans (x5.trans x6)).trans (ext_alloc x7 _))).mono ?_); rintro e w8 ⟨A8, k8, c8, B8, l8, d8, rfl, h8, g8, x8⟩)
            | (go_at_call 11; (with_reducible refine awake_t.mono ?_); rintro e w1 ⟨rfl, x1⟩))
    have hB7 := FBox.new w7 (.bool b) (.slice A7 k7 c7) (.slice B7 l7 d7) 34
    have y7 : Ext w7 (w7.alloc (.cells #[.bool b, .slice A7 k7 c7, .slice B7 l7 d7] 34)) := ext_alloc (Below.refl _ _) _
    have hB8 := FBox.new w8 (.bool b) (.slice A8 k8 c8) (.slice B8 l8 d8) 34
    have y8 : Ext w8 (w8.alloc (.cells #[.bool b, .slice A8 k8 c8, .slice B8 l8 d8] 34)) := ext_alloc (Below.refl _ _) _
    obtain ⟨G7, hG7⟩ : ∃ G, G = w7.heap.size := ⟨_, rfl⟩
    obtain ⟨G8, hG8⟩ : ∃ G, G = w8.heap.size := ⟨_, rfl⟩
    rw [← hG7] at hB7 ⊢
    rw [← hG8] at hB8 ⊢
    generalize w7.alloc (.cells #[.bool b, .slice A7 k7 c7, .slice B7 l7 d7] 34) = W7 at *
    generalize w8.alloc (.cells #[.bool b, .slice A8 k8 c8, .slice B8 l8 d8] 34) = W8 at *
    have X8 : Ext w W8 := ((((x1.trans x2).trans (x3.trans x4)).trans (x5.trans x6)).trans (x7.trans y7)).trans (x8.trans y8)
    have HMA := Lib.hid (fun (w' : World) (h : Ext W8 w') => ematrix_same (h5.below (((x6.trans (x7.trans y7)).trans (x8.trans y8)).trans h)) (h6.below (((x7.trans y7).trans (x8.trans y8)).trans h)) (fun _ _ _ _ => rfl) hn1)
    have HFA := Lib.hid (fun (w' : World) (h : Ext W8 w') => bfrac_eq (b := b) (h7.below ((y7.trans (x8.trans y8)).trans h)) (g7.below ((y7.trans (x8.trans y8)).trans h)) (h8.below (y8.trans h)) (g8.below (y8.trans h)))
    have HC7 := Lib.hid (fun (w' : World) (h : Ext W8 w') => hB7.below ((x8.trans y8).trans h))
    have HC8 := Lib.hid (fun (w' : World) (h : Ext W8 w') => hB8.below h)
    clear hB7 hB8 h5 h6 h7 g7 h8 g8 x1 x2 x3 x4 x5 x6 x7 y7 x8 y8 hG7 hG8 hgb
    go_wp2_with (first
      | (go_at_call 19; (with_reducible refine (HMA.out _ (Below.refl _ _)).mono ?_); rintro e w9 ⟨rfl, x9⟩; obtain ⟨p0, p1, p2, _, _, _⟩ := HC7.out _ x9; obtain ⟨q0, q1, q2, _, _, _⟩ := HC8.out _ x9)
      | (go_at_call 20; (with_reducible refine (HFA.out _ x9).mono ?_); rintro e w10 ⟨rfl, x10⟩)
      | (go_at_call 21; (with_reducible refine (H7.out _ (X8.trans (x9.trans x10))).mono ?_); rintro e w11 ⟨rfl, x11⟩)
      | (go_at_call 22; (with_reducible refine (H8.out _ ((X8.trans (x9.trans x10)).trans x11)).mono ?_); rintro e w12 ⟨rfl, x12⟩))
    go_ret
    exact ⟨by (first | rfl | simp), (X8.trans (x9.trans x10)).trans (x11.trans x12)⟩
  · clear hv
    have HF := Lib.hid hf
    clear hf
    go_enter Try.func3, Try.ntmps3
    go_wp2_with (first
            | (go_at_call 12; (with_reducible refine (HFW.out _ x1).mono ?_); rintro e w2 hgb; obtain ⟨rfl, x2⟩ := hgb.f HF.out)
            | (go_at_call 11; (with_reducible refine awake_t.mono ?_); rintro e w4 ⟨rfl, x4⟩; have y4 := (x2).trans x4)
            | (go_at_call 11; (with_reducible refine awake_t.mono ?_); rintro e w1 ⟨rfl, x1⟩))
    go_ret
    exact ⟨rfl, x1.trans y4⟩

end Go.Proofs.Ytmfigiifflljpaa
