/- metal: the reference's Rank, Reduce, Det. -/
import Derived.Test.YtmfigiifflljpaaMetY
set_option linter.unusedVariables false
set_option linter.unusedSimpArgs false
set_option maxRecDepth 100000
namespace Go.Proofs.Ytmfigiifflljpaa
open Go.RowKit Num

theorem LMat.rinvalid {w : World} {v : Value} {ls : List Nat} (h : LMat w v ls) (hv : ¬ validL ls) : Calls Try.prog 22 #[v] w (fun e w' => e = .returned (.bool false) ∧ Ext w w') := by
  have h1 := rvalid_l h
  rwa [decide_eq_false hv] at h1
set_option maxHeartbeats 4000000 in
theorem rrank_ok {K : Bool} {v : Value} {n C L : Nat} {M : Mx} {w : World} (hv : EMat K w v n C M) (hL3 : 3 ≤ L) (hL : L ≤ 1000) (hfb : FBm M n C L) (hn : n ≤ 8) (hC : C ≤ 8) (hz : n = 0 → C = 0) :
    Calls Try.prog 14 #[v] w (fun e w' => e = .returned (.tuple #[.int .i64 (rk M n C : Int), .int .i64 0]) ∧ Ext w w') := by
  have HV := Lib.hid (fun (w' : World) (h : Ext w w') => (hv.below h).rvalid hn hC)
  have HR := Lib.hid (fun (w' : World) (h : Ext w w') => rred_n (hv.below h) hL3 hL hfb hn (by omega) hz)
  obtain ⟨A, cap, rfl, _, _⟩ := hv.form
  clear hv hfb hz
  go_enter Try.func14, Try.ntmps14
  go_wp2_with (first
    | (go_at_call 22; (with_reducible refine (HV.out _ (Below.refl _ _)).mono ?_); rintro e w1 ⟨rfl, x1⟩)
    | (go_at_call 43; (with_reducible refine (HR.out _ x1).mono ?_); rintro e w2 ⟨A2, c2, A3, c3, b4, A4, k4, l4, B4, m4, o4, rfl, _, _, _, x2⟩))
  go_ret2
  exact ⟨rfl, x1.trans (ext_alloc x2 _)⟩
set_option maxHeartbeats 4000000 in
theorem rrank_no {v : Value} {ls : List Nat} {w : World} (hv : LMat w v ls) (hl : ¬ validL ls) :
    Calls Try.prog 14 #[v] w (fun e w' => e = .returned (.tuple #[.int .i64 0, .int .i64 1]) ∧ Ext w w') := by
  have HV := Lib.hid (hv.rinvalid hl)
  obtain ⟨A, cap, rfl, _, _⟩ := hv.form
  clear hv hl
  go_enter Try.func14, Try.ntmps14
  go_wp2_with (go_at_call 22; (with_reducible refine HV.out.mono ?_); rintro e w1 ⟨rfl, x1⟩)
  go_ret2
  exact ⟨rfl, x1⟩
set_option maxHeartbeats 4000000 in
theorem rreduce_ok {K : Bool} {v : Value} {n C L : Nat} {M : Mx} {w : World} (hv : EMat K w v n C M) (hL3 : 3 ≤ L) (hL : L ≤ 1000) (hfb : FBm M n C L) (hn : n ≤ 8) (hC : C ≤ 8) (hz : n = 0 → C = 0) :
    Calls Try.prog 16 #[v] w (GivesM w n C (rrefs M n C).m 0) := by
  have HV := Lib.hid (fun (w' : World) (h : Ext w w') => (hv.below h).rvalid hn hC)
  have HR := Lib.hid (fun (w' : World) (h : Ext w w') => rred_n (hv.below h) hL3 hL hfb hn (by omega) hz)
  obtain ⟨A, cap, rfl, _, _⟩ := hv.form
  clear hv hfb hz
  go_enter Try.func16, Try.ntmps16
  go_wp2_with (first
    | (go_at_call 22; (with_reducible refine (HV.out _ (Below.refl _ _)).mono ?_); rintro e w1 ⟨rfl, x1⟩)
    | (go_at_call 43; (with_reducible refine (HR.out _ x1).mono ?_); rintro e w2 ⟨A2, c2, A3, c3, b4, A4, k4, l4, B4, m4, o4, rfl, m2, _, _, x2⟩))
  go_ret2
  exact ⟨_, _, rfl, m2.below (ext_alloc (Below.refl _ _) _), x1.trans (ext_alloc x2 _)⟩
set_option maxHeartbeats 4000000 in
theorem rreduce_no {v : Value} {ls : List Nat} {w : World} (hv : LMat w v ls) (hl : ¬ validL ls) :
    Calls Try.prog 16 #[v] w (fun e w' => e = .returned (.tuple #[.slice none 0 0, .int .i64 1]) ∧ Ext w w') := by
  have HV := Lib.hid (hv.rinvalid hl)
  obtain ⟨A, cap, rfl, _, _⟩ := hv.form
  clear hv hl
  go_enter Try.func16, Try.ntmps16
  go_wp2_with (go_at_call 22; (with_reducible refine HV.out.mono ?_); rintro e w1 ⟨rfl, x1⟩)
  go_ret2
  exact ⟨rfl, x1⟩
/-- A fraction and no error. -/
def GivesFW (w : World) (q : Rat) (e : Ending) (w' : World) : Prop :=
  ∃ b A k c A' k' c', e = .returned (.tuple #[.agg #[.bool b, .slice A k c, .slice A' k' c'], .int .i64 0]) ∧ FracV w' b (.slice A k c) (.slice A' k' c') q ∧ Ext w w'
set_option maxHeartbeats 4000000 in
theorem rdet_ok {K : Bool} {v : Value} {n L : Nat} {M : Mx} {w : World} (hv : EMat K w v n n M) (hL3 : 3 ≤ L) (hL : L ≤ 1000) (hfb : FBm M n n L) (hn : n ≤ 8) :
    Calls Try.prog 18 #[v] w (GivesFW w (det n M)) := by
  have HV := Lib.hid (fun (w' : World) (h : Ext w w') => (hv.below h).rvalid hn hn)
  have HCO := Lib.hid (fun (w' : World) (h : Ext w w') => (hv.below h).rcols (fun h => h))
  have HR := Lib.hid (fun (w' : World) (h : Ext w w') => rred_n (hv.below h) hL3 hL hfb hn (by omega) (fun h => h))
  have HD := Lib.hid ((rdet_all M n).1)
  have hnn : ((n : Int) != (n : Int)) = false := by simp
  obtain ⟨A, cap, rfl, _, _⟩ := hv.form
  clear hv hfb
  go_enter Try.func18, Try.ntmps18
  go_upto_region 1 with (fail)
  have hE3 := box_rest w (.bool false) (.slice none 0 0) (.slice none 0 0) 34
  have hF0 := FBox.new w (.bool false) (.slice none 0 0) (.slice none 0 0) 34
  have x0 : Ext w (w.alloc (.cells #[.bool false, .slice none 0 0, .slice none 0 0] 34)) := ext_alloc (Below.refl _ _) _
  have hs0 : w.heap.size + 1 ≤ (w.alloc (.cells #[.bool false, .slice none 0 0, .slice none 0 0] 34)).heap.size := by simp
  generalize w.alloc (.cells #[.bool false, .slice none 0 0, .slice none 0 0] 34) = W0 at *
  have HF := Lib.hid (fun (w' : World) (h : Ext W0 w') => hF0.below h)
  have HE := Lib.hid x0
  have f0 : Ext W0 W0 := Below.refl _ _
  obtain ⟨r0, r1, r2, g0, g1, g2⟩ := hF0
  clear x0
  have HE3 := Lib.hid (fun (w' : World) (h : Ext W0 w') (o : Nat) (ho : 3 ≤ o) => (h.cell (p := ⟨w.heap.size, o, none⟩) (by show w.heap.size < W0.heap.size; omega)).trans (hE3 o ho))
  clear hE3
  go_wp2_with (first
    | (go_at_call 22; (with_reducible refine (HV.out _ HE.out).mono ?_); rintro e w1 ⟨rfl, x1⟩)
    | (go_at_call 52; (with_reducible refine (HCO.out _ (HE.out.trans x1)).mono ?_); rintro e w3 ⟨rfl, hw3⟩; obtain rfl : w1 = w3 := hw3.symm)
    | (go_at_call 43; (with_reducible refine (HR.out _ (HE.out.trans x1)).mono ?_); rintro e w2 ⟨A2, c2, A3, c3, b4, A4, k4, l4, B4, m4, o4, rfl, _, _, h2, x2⟩; obtain ⟨r0, r1, r2, g0, g1, g2⟩ := HF.out _ (ext_alloc (x1.trans x2) (.cells #[.bool b4, .slice A4 k4 l4, .slice B4 m4 o4] 34)); obtain ⟨t0, t1, t2, _, _, _⟩ := FBox.new w2 (.bool b4) (.slice A4 k4 l4) (.slice B4 m4 o4) 34))
  obtain ⟨q0, q1, q2⟩ := set3 r0 r1 r2 (.bool b4) (.slice A4 k4 l4) (.slice B4 m4 o4)
  refine bodyPost_ret (v := .tuple #[.agg #[.bool b4, .slice A4 k4 l4, .slice B4 m4 o4], .int .i64 0]) (by simp [results, Try.results18, go_sem, q0, q1, q2]) rfl ?_
  rw [HD.out] at h2
  have hX := ext_alloc (x1.trans x2) (.cells #[.bool b4, .slice A4 k4 l4, .slice B4 m4 o4] 34)
  have hfar : ∀ (x : Value) (ys : List Nat), U32s _ x ys → Far x (bxV w.heap.size) := fun x ys hu => box_far (HF.out _ hX) ⟨_, _, _, rfl⟩ ⟨_, _, _, rfl⟩ (HE3.out _ hX) hu
  have h2 := h2.below (ext_alloc (Below.refl _ _) (.cells #[.bool b4, .slice A4 k4 l4, .slice B4 m4 o4] 34))
  exact ⟨_, _, _, _, _, _, _, rfl, h2.kept (v := bxV w.heap.size) (box_grown _ w.heap.size (.bool b4) (.slice A4 k4 l4) (.slice B4 m4 o4)) (hfar _ _ h2.2.1) (hfar _ _ h2.2.2), ext_put (HE.out.trans hX) (Nat.le_refl _) _ _ _⟩
set_option maxHeartbeats 4000000 in
theorem rdet_no {v : Value} {ls : List Nat} {w : World} (hv : LMat w v ls) (hl : ¬ validL ls ∨ ls.headD 0 ≠ ls.length) :
    Calls Try.prog 18 #[v] w (GivesFN w 1) := by
  have HVA := Lib.hid (fun (w' : World) (h : Ext w w') => rvalid_l (hv.below h))
  have HCO := Lib.hid (fun (w' : World) (h : Ext w w') => rcols_l (hv.below h))
  obtain ⟨A, cap, rfl, hc1, hc2⟩ := hv.form
  clear hv
  obtain ⟨c, hc⟩ : ∃ c, c = ls.headD 0 := ⟨_, rfl⟩
  obtain ⟨m, hm⟩ : ∃ m, m = ls.length := ⟨_, rfl⟩
  rw [← hc] at hl HCO
  rw [← hm] at hl HCO HVA hc1 ⊢
  obtain ⟨b, hb⟩ : ∃ b, b = decide (validL ls) := ⟨_, rfl⟩
  rw [← hb] at HVA
  have hb' : b = true → ((m : Int) != (c : Int)) = true := fun h => by
    rcases hl with hl | hl
    · exact absurd (of_decide_eq_true (hb.symm.trans h)) hl
    · rw [bne_iff_ne]; omega
  clear hb hc hl hm
  go_enter Try.func18, Try.ntmps18
  go_upto_region 1 with (fail)
  have hF0 := FBox.new w (.bool false) (.slice none 0 0) (.slice none 0 0) 34
  have x0 : Ext w (w.alloc (.cells #[.bool false, .slice none 0 0, .slice none 0 0] 34)) := ext_alloc (Below.refl _ _) _
  have hs0 : w.heap.size + 1 ≤ (w.alloc (.cells #[.bool false, .slice none 0 0, .slice none 0 0] 34)).heap.size := by simp
  generalize w.alloc (.cells #[.bool false, .slice none 0 0, .slice none 0 0] 34) = W0 at *
  have HF := Lib.hid (fun (w' : World) (h : Ext W0 w') => hF0.below h)
  have HE := Lib.hid x0
  have f0 : Ext W0 W0 := Below.refl _ _
  obtain ⟨r0, r1, r2, g0, g1, g2⟩ := hF0
  clear x0
  cases b with
  | false =>
    clear hb'
    go_wp2_with (go_at_call 22; (with_reducible refine (HVA.out _ HE.out).mono ?_); rintro e w1 ⟨rfl, x1⟩; obtain ⟨r0, r1, r2, g0, g1, g2⟩ := HF.out _ x1)
    obtain ⟨q0, q1, q2⟩ := set3 r0 r1 r2 (.bool false) (.slice none 0 0) (.slice none 0 0)
    refine bodyPost_ret (v := .tuple #[.agg #[.bool false, .slice none 0 0, .slice none 0 0], .int .i64 1]) (by simp [results, Try.results18, go_sem, q0, q1, q2]) rfl ?_
    exact ⟨rfl, ext_put (HE.out.trans x1) (by omega) _ _ _⟩
  | true =>
    have hmm := hb' rfl
    have hm' : ¬ (m = c) := by rw [bne_iff_ne] at hmm; omega
    clear hb'
    go_wp2_with (first
      | (go_at_call 22; (with_reducible refine (HVA.out _ HE.out).mono ?_); rintro e w1 ⟨rfl, x1⟩; obtain ⟨r0, r1, r2, g0, g1, g2⟩ := HF.out _ x1)
      | (go_at_call 52; (with_reducible refine (HCO.out _ (HE.out.trans x1)).mono ?_); rintro e w2 ⟨rfl, hw2⟩; obtain rfl : w1 = w2 := hw2.symm))
    obtain ⟨q0, q1, q2⟩ := set3 r0 r1 r2 (.bool false) (.slice none 0 0) (.slice none 0 0)
    refine bodyPost_ret (v := .tuple #[.agg #[.bool false, .slice none 0 0, .slice none 0 0], .int .i64 1]) (by simp [results, Try.results18, go_sem, q0, q1, q2]) rfl ?_
    exact ⟨rfl, ext_put (HE.out.trans x1) (by omega) _ _ _⟩

end Go.Proofs.Ytmfigiifflljpaa
