/- fraction: Mul. fraction: Sign, Cmp. -/
import Derived.Test.YtbplkienkhinmaaGreatDoorFrac
import Derived.Deep.RegionHeld3
import Derived.Deep.RegionLaw
set_option linter.unusedVariables false
set_option linter.unusedSimpArgs false
set_option maxRecDepth 100000
namespace Go.Proofs.YtbplkienkhinmaaGreatDoor
open Go.RowKit Num


set_option maxHeartbeats 4000000 in
theorem mul_f {b b' : Bool} {s t s' t' : Value} {p q : Rat} {L M : Nat} {w : World} (hx : AnyF w b s t p L) (hy : AnyF w b' s' t' q M) (hL : L + M ≤ 549755813887) :
    Calls Tryz.prog 47 #[.agg #[.bool b, s, t], .agg #[.bool b', s', t']] w (GivesF w (p * q)) := by
  obtain ⟨n, d, hn, hd, rfl, ln, ld⟩ := hx
  obtain ⟨m, e, hm, he, rfl, lm, le⟩ := hy
  have HL1 := Lib.hid ln
  have HL2 := Lib.hid ld
  have HL3 := Lib.hid lm
  have HL4 := Lib.hid le
  have HLI := Lib.hid hL
  have HQ1 := Lib.hid (limbsOf_length_mul n m)
  have HQ2 := Lib.hid (limbsOf_length_mul d e)
  rw [frac_mul]
  clear ln ld lm le hL
  go_enter Tryz.func47, Tryz.ntmps47
  go_upto_region 1 with (fail)
  have hX0 := FBox.new w (.bool b) s t 27
  have hY0 := FBox.new (w.alloc (.cells #[.bool b, s, t] 27)) (.bool b') s' t' 27
  have hF0 := FBox.new ((w.alloc (.cells #[.bool b, s, t] 27)).alloc (.cells #[.bool b', s', t'] 27)) (.bool false) (.slice none 0 0) (.slice none 0 0) 27
  have hX1 := (hX0.below (ext_alloc (Below.refl _ _) (.cells #[.bool b', s', t'] 27))).below (ext_alloc (Below.refl _ _) (.cells #[.bool false, .slice none 0 0, .slice none 0 0] 27))
  have hY1 := hY0.below (ext_alloc (Below.refl _ _) (.cells #[.bool false, .slice none 0 0, .slice none 0 0] 27))
  have x0 : Ext w (((w.alloc (.cells #[.bool b, s, t] 27)).alloc (.cells #[.bool b', s', t'] 27)).alloc (.cells #[.bool false, .slice none 0 0, .slice none 0 0] 27)) := ext_alloc (ext_alloc (ext_alloc (Below.refl _ _) _) _) _
  have hs0 : w.heap.size + 1 + 1 + 1 ≤ (((w.alloc (.cells #[.bool b, s, t] 27)).alloc (.cells #[.bool b', s', t'] 27)).alloc (.cells #[.bool false, .slice none 0 0, .slice none 0 0] 27)).heap.size := by simp
  rw [show (w.alloc (.cells #[.bool b, s, t] 27)).heap.size = w.heap.size + 1 from by simp] at hY1
  rw [show ((w.alloc (.cells #[.bool b, s, t] 27)).alloc (.cells #[.bool b', s', t'] 27)).heap.size = w.heap.size + 1 + 1 from by simp] at hF0
  clear hX0 hY0
  generalize ((w.alloc (.cells #[.bool b, s, t] 27)).alloc (.cells #[.bool b', s', t'] 27)).alloc (.cells #[.bool false, .slice none 0 0, .slice none 0 0] 27) = W0 at *
  have hs1 : w.heap.size + 1 + 1 ≤ W0.heap.size := by omega
  have HX := Lib.hid (fun (w' : World) (h : Below (w.heap.size + 1 + 1) W0 w') => (⟨(h.cell (p := ⟨w.heap.size, 0, none⟩) (by show w.heap.size < _; omega)).trans hX1.1, (h.cell (p := ⟨w.heap.size, 1, none⟩) (by show w.heap.size < _; omega)).trans hX1.2.1, (h.cell (p := ⟨w.heap.size, 2, none⟩) (by show w.heap.size < _; omega)).trans hX1.2.2.1, (h.cell (p := ⟨w.heap.size + 1, 0, none⟩) (by show w.heap.size + 1 < _; omega)).trans hY1.1, (h.cell (p := ⟨w.heap.size + 1, 1, none⟩) (by show w.heap.size + 1 < _; omega)).trans hY1.2.1, (h.cell (p := ⟨w.heap.size + 1, 2, none⟩) (by show w.heap.size + 1 < _; omega)).trans hY1.2.2.1⟩ : w'.cell? ⟨w.heap.size, 0, none⟩ = some (.bool b) ∧ w'.cell? ⟨w.heap.size, 1, none⟩ = some s ∧ w'.cell? ⟨w.heap.size, 2, none⟩ = some t ∧ w'.cell? ⟨w.heap.size + 1, 0, none⟩ = some (.bool b') ∧ w'.cell? ⟨w.heap.size + 1, 1, none⟩ = some s' ∧ w'.cell? ⟨w.heap.size + 1, 2, none⟩ = some t'))
  have HF := Lib.hid (fun (w' : World) (h : Ext W0 w') => hF0.below h)
  have HE := Lib.hid x0
  have f0 : Ext W0 W0 := Below.refl _ _
  have HN := Lib.hid (hn.below x0)
  have HD := Lib.hid (hd.below x0)
  have HM := Lib.hid (hm.below x0)
  have HE2 := Lib.hid (he.below x0)
  clear x0 hX1 hY1 hF0 hn hd hm he
  go_region_held3 (fun w' => w'.cell? ⟨w.heap.size, 0, none⟩ = some (.bool b) ∧ w'.cell? ⟨w.heap.size, 1, none⟩ = some s ∧ w'.cell? ⟨w.heap.size, 2, none⟩ = some t ∧ w'.cell? ⟨w.heap.size + 1, 0, none⟩ = some (.bool b') ∧ w'.cell? ⟨w.heap.size + 1, 1, none⟩ = some s' ∧ w'.cell? ⟨w.heap.size + 1, 2, none⟩ = some t') (first | exact HX.out _ ((((Below.mono f3 hs1).setCell (Nat.le_refl _) _).setCell (Nat.le_refl _) _).setCell (Nat.le_refl _) _) | exact HX.out _ (Below.mono (by first | ((repeat first | assumption | exact Below.refl _ _ | refine ext_alloc ?_ _ | refine ext_drew ?_ | refine ext_set ?_ (by first | omega | (simp; done) | (simp; omega)) _); done) | fail) hs1)) (first
    | (go_at_call 24; (with_reducible refine (mul_n (NatV.below HN.out (by first | ((repeat first | assumption | exact Below.refl _ _ | refine ext_alloc ?_ _ | refine ext_drew ?_ | refine ext_set ?_ (by first | omega | (simp; done) | (simp; omega)) _); done) | fail)) (NatV.below HM.out (by first | ((repeat first | assumption | exact Below.refl _ _ | refine ext_alloc ?_ _ | refine ext_drew ?_ | refine ext_set ?_ (by first | omega | (simp; done) | (simp; omega)) _); done) | fail)) (by have := HL1.out; have := HL3.out; have := HLI.out; omega)).mono ?_); rintro _ s1 ⟨A1, k1, c1, rfl, h1, z1, _⟩; have f1 : Ext W0 s1 := Ext.trans (by first | ((repeat first | assumption | exact Below.refl _ _ | refine ext_alloc ?_ _ | refine ext_drew ?_ | refine ext_set ?_ (by first | omega | (simp; done) | (simp; omega)) _); done) | fail) z1)
    | (go_at_call 24; (with_reducible refine (mul_n (NatV.below HD.out (by first | ((repeat first | assumption | exact Below.refl _ _ | refine ext_alloc ?_ _ | refine ext_drew ?_ | refine ext_set ?_ (by first | omega | (simp; done) | (simp; omega)) _); done) | fail)) (NatV.below HE2.out (by first | ((repeat first | assumption | exact Below.refl _ _ | refine ext_alloc ?_ _ | refine ext_drew ?_ | refine ext_set ?_ (by first | omega | (simp; done) | (simp; omega)) _); done) | fail)) (by have := HL2.out; have := HL4.out; have := HLI.out; omega)).mono ?_); rintro _ s2 ⟨A2, k2, c2, rfl, h2, z2, _⟩; have f2 : Ext W0 s2 := Ext.trans (by first | ((repeat first | assumption | exact Below.refl _ _ | refine ext_alloc ?_ _ | refine ext_drew ?_ | refine ext_set ?_ (by first | omega | (simp; done) | (simp; omega)) _); done) | fail) z2)
    | (go_at_call 30; (with_reducible refine (made_n (NatV.below (CanV.nat h1 (by have := HQ1.out; have := HL1.out; have := HL3.out; have := HLI.out; unfold Fit; omega)) (by first | ((repeat first | assumption | exact Below.refl _ _ | refine ext_alloc ?_ _ | refine ext_drew ?_ | refine ext_set ?_ (by first | omega | (simp; done) | (simp; omega)) _); done) | fail)) (CanV.nat h2 (by have := HQ2.out; have := HL2.out; have := HL4.out; have := HLI.out; unfold Fit; omega)) (by have := HQ1.out; have := HL1.out; have := HL3.out; have := HLI.out; omega) (by have := HQ2.out; have := HL2.out; have := HL4.out; have := HLI.out; omega)).mono ?_); rintro _ s3 ⟨b3, A3, k3, c3, B3, l3, d3, rfl, h3, z3, n3, m3⟩; have f3 : Ext W0 s3 := Ext.trans (by first | ((repeat first | assumption | exact Below.refl _ _ | refine ext_alloc ?_ _ | refine ext_drew ?_ | refine ext_set ?_ (by first | omega | (simp; done) | (simp; omega)) _); done) | fail) z3; obtain ⟨r0, r1, r2, g0, g1, g2⟩ := HF.out _ f3))
  go_wp2
  obtain ⟨q0, q1, q2⟩ := set3 r0 r1 r2 (.bool b3) (.slice A3 k3 c3) (.slice B3 l3 d3)
  refine bodyPost_ret (v := .agg #[.bool b3, .slice A3 k3 c3, .slice B3 l3 d3]) (by simp [results, Tryz.results47, go_sem, q0, q1, q2]) rfl ?_
  exact GivesF.box (B := w.heap.size + 1 + 1) (HE.out.trans f3) h3 (n3.mono (by have := f2.size; omega)) (m3.mono (by have := f2.size; omega)) (by omega)

end Go.Proofs.YtbplkienkhinmaaGreatDoor
namespace Go.Proofs.YtbplkienkhinmaaGreatDoor
open Go.RowKit Num


set_option maxHeartbeats 2000000 in
theorem sign_f {b : Bool} {s t : Value} {q : Rat} {L : Nat} {w : World} (hx : AnyF w b s t q L) :
    Calls Tryz.prog 6 #[.agg #[.bool b, s, t]] w (fun e w' => e = .returned (.int .i64 (sgnQ q)) ∧ Ext w w') := by
  obtain ⟨n, d, hn, hd, rfl, ln, ld⟩ := hx
  clear ln ld
  have hcase : n = 0 ∨ (n ≠ 0 ∧ d = 0) ∨ (n ≠ 0 ∧ d ≠ 0) := by omega
  rcases hcase with hz | ⟨hn0, hz⟩ | ⟨hn0, hd0⟩
  · rw [sgnQ_zero (.inl hz)]
    subst hz
    go_enter Tryz.func6, Tryz.ntmps6
    go_upto_region 1 with (fail)
    have hX0 := FBox.new w (.bool b) s t 27
    have x0 : Ext w (w.alloc (.cells #[.bool b, s, t] 27)) := ext_alloc (Below.refl _ _) _
    generalize w.alloc (.cells #[.bool b, s, t] 27) = W0 at *
    have HX := Lib.hid (fun (w' : World) (h : Ext W0 w') => hX0.below h)
    have HE := Lib.hid x0
    obtain ⟨cx0, cx1, cx2, _, _, _⟩ := hX0
    have f0 : Ext W0 W0 := Below.refl _ _
    have HN := Lib.hid (hn.below x0)
    have HD := Lib.hid (hd.below x0)
    clear x0 hn hd
    go_wp2_with (go_at_call 17; (with_reducible refine (zero_t (NatV.below HN.out (by first | ((repeat first | assumption | exact Below.refl _ _ | refine ext_alloc ?_ _ | refine ext_drew ?_ | refine ext_set ?_ (by first | omega | (simp; done) | (simp; omega)) _); done) | fail))).mono ?_); rintro e s1 ⟨rfl, z1⟩; have f1 : Ext W0 s1 := Ext.trans (by first | ((repeat first | assumption | exact Below.refl _ _ | refine ext_alloc ?_ _ | refine ext_drew ?_ | refine ext_set ?_ (by first | omega | (simp; done) | (simp; omega)) _); done) | fail) z1)
    go_ret
    exact ⟨rfl, HE.out.trans f1⟩
  · rw [sgnQ_zero (.inr hz)]
    subst hz
    go_enter Tryz.func6, Tryz.ntmps6
    go_upto_region 1 with (fail)
    have hX0 := FBox.new w (.bool b) s t 27
    have x0 : Ext w (w.alloc (.cells #[.bool b, s, t] 27)) := ext_alloc (Below.refl _ _) _
    generalize w.alloc (.cells #[.bool b, s, t] 27) = W0 at *
    have HX := Lib.hid (fun (w' : World) (h : Ext W0 w') => hX0.below h)
    have HE := Lib.hid x0
    obtain ⟨cx0, cx1, cx2, _, _, _⟩ := hX0
    have f0 : Ext W0 W0 := Below.refl _ _
    have HN := Lib.hid (hn.below x0)
    have HD := Lib.hid (hd.below x0)
    clear x0 hn hd
    go_wp2_with (first
      | (go_at_call 17; (with_reducible refine (zero_f (NatV.below HN.out (by first | ((repeat first | assumption | exact Below.refl _ _ | refine ext_alloc ?_ _ | refine ext_drew ?_ | refine ext_set ?_ (by first | omega | (simp; done) | (simp; omega)) _); done) | fail)) hn0).mono ?_); rintro e s1 ⟨rfl, z1⟩; have f1 : Ext W0 s1 := Ext.trans (by first | ((repeat first | assumption | exact Below.refl _ _ | refine ext_alloc ?_ _ | refine ext_drew ?_ | refine ext_set ?_ (by first | omega | (simp; done) | (simp; omega)) _); done) | fail) z1; obtain ⟨cx0, cx1, cx2, _, _, _⟩ := HX.out _ f1)
      | (go_at_call 17; (with_reducible refine (zero_t (NatV.below HD.out (by first | ((repeat first | assumption | exact Below.refl _ _ | refine ext_alloc ?_ _ | refine ext_drew ?_ | refine ext_set ?_ (by first | omega | (simp; done) | (simp; omega)) _); done) | fail))).mono ?_); rintro e s2 ⟨rfl, z2⟩; have f2 : Ext W0 s2 := Ext.trans (by first | ((repeat first | assumption | exact Below.refl _ _ | refine ext_alloc ?_ _ | refine ext_drew ?_ | refine ext_set ?_ (by first | omega | (simp; done) | (simp; omega)) _); done) | fail) z2))
    go_ret
    exact ⟨rfl, HE.out.trans f2⟩
  · rw [sgnQ_frac hn0 hd0]
    cases b
    · go_enter Tryz.func6, Tryz.ntmps6
      go_upto_region 1 with (fail)
      have hX0 := FBox.new w (.bool false) s t 27
      have x0 : Ext w (w.alloc (.cells #[.bool false, s, t] 27)) := ext_alloc (Below.refl _ _) _
      generalize w.alloc (.cells #[.bool false, s, t] 27) = W0 at *
      have HX := Lib.hid (fun (w' : World) (h : Ext W0 w') => hX0.below h)
      have HE := Lib.hid x0
      obtain ⟨cx0, cx1, cx2, _, _, _⟩ := hX0
      have f0 : Ext W0 W0 := Below.refl _ _
      have HN := Lib.hid (hn.below x0)
      have HD := Lib.hid (hd.below x0)
      clear x0 hn hd
      go_wp2_with (first
        | (go_at_call 17; (with_reducible refine (zero_f (NatV.below HN.out (by first | ((repeat first | assumption | exact Below.refl _ _ | refine ext_alloc ?_ _ | refine ext_drew ?_ | refine ext_set ?_ (by first | omega | (simp; done) | (simp; omega)) _); done) | fail)) hn0).mono ?_); rintro e s1 ⟨rfl, z1⟩; have f1 : Ext W0 s1 := Ext.trans (by first | ((repeat first | assumption | exact Below.refl _ _ | refine ext_alloc ?_ _ | refine ext_drew ?_ | refine ext_set ?_ (by first | omega | (simp; done) | (simp; omega)) _); done) | fail) z1; obtain ⟨cx0, cx1, cx2, _, _, _⟩ := HX.out _ f1)
        | (go_at_call 17; (with_reducible refine (zero_f (NatV.below HD.out (by first | ((repeat first | assumption | exact Below.refl _ _ | refine ext_alloc ?_ _ | refine ext_drew ?_ | refine ext_set ?_ (by first | omega | (simp; done) | (simp; omega)) _); done) | fail)) hd0).mono ?_); rintro e s2 ⟨rfl, z2⟩; have f2 : Ext W0 s2 := Ext.trans (by first | ((repeat first | assumption | exact Below.refl _ _ | refine ext_alloc ?_ _ | refine ext_drew ?_ | refine ext_set ?_ (by first | omega | (simp; done) | (simp; omega)) _); done) | fail) z2; obtain ⟨cx0, cx1, cx2, _, _, _⟩ := HX.out _ f2))
      go_ret
      exact ⟨rfl, HE.out.trans f2⟩
    · go_enter Tryz.func6, Tryz.ntmps6
      go_upto_region 1 with (fail)
      have hX0 := FBox.new w (.bool true) s t 27
      have x0 : Ext w (w.alloc (.cells #[.bool true, s, t] 27)) := ext_alloc (Below.refl _ _) _
      generalize w.alloc (.cells #[.bool true, s, t] 27) = W0 at *
      have HX := Lib.hid (fun (w' : World) (h : Ext W0 w') => hX0.below h)
      have HE := Lib.hid x0
      obtain ⟨cx0, cx1, cx2, _, _, _⟩ := hX0
      have f0 : Ext W0 W0 := Below.refl _ _
      have HN := Lib.hid (hn.below x0)
      have HD := Lib.hid (hd.below x0)
      clear x0 hn hd
      go_wp2_with (first
        | (go_at_call 17; (with_reducible refine (zero_f (NatV.below HN.out (by first | ((repeat first | assumption | exact Below.refl _ _ | refine ext_alloc ?_ _ | refine ext_drew ?_ | refine ext_set ?_ (by first | omega | (simp; done) | (simp; omega)) _); done) | fail)) hn0).mono ?_); rintro e s1 ⟨rfl, z1⟩; have f1 : Ext W0 s1 := Ext.trans (by first | ((repeat first | assumption | exact Below.refl _ _ | refine ext_alloc ?_ _ | refine ext_drew ?_ | refine ext_set ?_ (by first | omega | (simp; done) | (simp; omega)) _); done) | fail) z1; obtain ⟨cx0, cx1, cx2, _, _, _⟩ := HX.out _ f1)
        | (go_at_call 17; (with_reducible refine (zero_f (NatV.below HD.out (by first | ((repeat first | assumption | exact Below.refl _ _ | refine ext_alloc ?_ _ | refine ext_drew ?_ | refine ext_set ?_ (by first | omega | (simp; done) | (simp; omega)) _); done) | fail)) hd0).mono ?_); rintro e s2 ⟨rfl, z2⟩; have f2 : Ext W0 s2 := Ext.trans (by first | ((repeat first | assumption | exact Below.refl _ _ | refine ext_alloc ?_ _ | refine ext_drew ?_ | refine ext_set ?_ (by first | omega | (simp; done) | (simp; omega)) _); done) | fail) z2; obtain ⟨cx0, cx1, cx2, _, _, _⟩ := HX.out _ f2))
      go_ret
      exact ⟨rfl, HE.out.trans f2⟩

theorem cmp_pos_frac {n d m e : Nat} (hd : d ≠ 0) (he : e ≠ 0) : cmpQ (frac false n d) (frac false m e) = cmpN (n * e) (m * d) := by
  have h1 := frac_lt (n := n) (m := m) hd he
  have h2 := frac_lt (n := m) (m := n) he hd
  unfold cmpQ cmpN
  rw [frac_false, frac_false]
  simp only [h1, h2]
theorem cmp_neg_frac {n d m e : Nat} (hd : d ≠ 0) (he : e ≠ 0) : cmpQ (frac true n d) (frac true m e) = -cmpN (n * e) (m * d) := by
  have h0 := cmp_pos_frac (n := n) (m := m) hd he
  rw [frac_false, frac_false] at h0
  rw [← h0, frac_true, frac_true]
  generalize (n : Rat) / (d : Rat) = x
  generalize (m : Rat) / (e : Rat) = y
  unfold cmpQ
  have h1 : -x < -y ↔ y < x := by grind
  have h2 : -y < -x ↔ x < y := by grind
  simp only [h1, h2]
  by_cases a1 : y < x
  · have : ¬ x < y := by grind
    simp [a1, this]
  · by_cases a2 : x < y <;> simp [a1, a2]
theorem sgnQ_lt_cmp {a b : Rat} (h : sgnQ a < sgnQ b) : cmpQ a b = -1 := by
  unfold cmpQ
  rw [if_pos]
  unfold sgnQ at h
  grind
theorem sgnQ_gt_cmp {a b : Rat} (h : sgnQ b < sgnQ a) : cmpQ a b = 1 := by
  have h1 : b < a := by unfold sgnQ at h; grind
  unfold cmpQ
  rw [if_neg (by grind), if_pos h1]
theorem sgnQ_cases (a : Rat) : sgnQ a = -1 ∨ sgnQ a = 0 ∨ sgnQ a = 1 := by
  unfold sgnQ
  split
  · exact .inl rfl
  · split
    · exact .inr (.inr rfl)
    · exact .inr (.inl rfl)
theorem sgnQ_one {b : Bool} {n d : Nat} (h : sgnQ (frac b n d) = 1) : b = false ∧ d ≠ 0 := by
  by_cases hz : n = 0 ∨ d = 0
  · rw [sgnQ_zero hz] at h; omega
  · rw [sgnQ_frac (fun e => hz (.inl e)) (fun e => hz (.inr e))] at h
    cases b
    · exact ⟨rfl, fun e => hz (.inr e)⟩
    · simp at h
theorem sgnQ_minus {b : Bool} {n d : Nat} (h : sgnQ (frac b n d) = -1) : b = true ∧ d ≠ 0 := by
  by_cases hz : n = 0 ∨ d = 0
  · rw [sgnQ_zero hz] at h; omega
  · rw [sgnQ_frac (fun e => hz (.inl e)) (fun e => hz (.inr e))] at h
    cases b
    · simp at h
    · exact ⟨rfl, fun e => hz (.inr e)⟩

set_option maxHeartbeats 4000000 in
theorem cmp_f {b b' : Bool} {s t s' t' : Value} {p q : Rat} {L M : Nat} {w : World} (hx : AnyF w b s t p L) (hy : AnyF w b' s' t' q M) (hL : L + M ≤ 549755813887) :
    Calls Tryz.prog 9 #[.agg #[.bool b, s, t], .agg #[.bool b', s', t']] w (fun e w' => e = .returned (.int .i64 (cmpQ p q)) ∧ Ext w w') := by
  have hcases : sgnQ p < sgnQ q ∨ sgnQ q < sgnQ p ∨ (sgnQ p = 0 ∧ sgnQ q = 0) ∨ (sgnQ p = 1 ∧ sgnQ q = 1) ∨ (sgnQ p = -1 ∧ sgnQ q = -1) := by
    rcases sgnQ_cases p with h | h | h <;> rcases sgnQ_cases q with h' | h' | h' <;> omega
  have hrange1 := sgnQ_cases p
  have hrange2 := sgnQ_cases q
  obtain ⟨n, d, hn, hd, rfl, ln, ld⟩ := id hx
  obtain ⟨m, e, hm, he, rfl, lm, le⟩ := id hy
  have HLI := Lib.hid hL
  have HL1 := Lib.hid ln
  have HL2 := Lib.hid ld
  have HL3 := Lib.hid lm
  have HL4 := Lib.hid le
  clear ln ld lm le hx hy
  rcases hcases with hc | hc | ⟨hc1, hc2⟩ | ⟨hc1, hc2⟩ | ⟨hc1, hc2⟩
  · have HR := Lib.hid (sgnQ_lt_cmp hc)
    go_enter Tryz.func9, Tryz.ntmps9
    go_upto_region 1 with (fail)
    have hX0 := FBox.new w (.bool b) s t 27
    have hY0 := FBox.new (w.alloc (.cells #[.bool b, s, t] 27)) (.bool b') s' t' 27
    have hX1 := hX0.below (ext_alloc (Below.refl _ _) (.cells #[.bool b', s', t'] 27))
    have x0 : Ext w ((w.alloc (.cells #[.bool b, s, t] 27)).alloc (.cells #[.bool b', s', t'] 27)) := ext_alloc (ext_alloc (Below.refl _ _) _) _
    rw [show (w.alloc (.cells #[.bool b, s, t] 27)).heap.size = w.heap.size + 1 from by simp] at hY0
    clear hX0
    generalize (w.alloc (.cells #[.bool b, s, t] 27)).alloc (.cells #[.bool b', s', t'] 27) = W0 at *
    have HX := Lib.hid (fun (w' : World) (h : Ext W0 w') => (⟨(hX1.below h).1, (hX1.below h).2.1, (hX1.below h).2.2.1, (hY0.below h).1, (hY0.below h).2.1, (hY0.below h).2.2.1⟩ : w'.cell? ⟨w.heap.size, 0, none⟩ = some (.bool b) ∧ w'.cell? ⟨w.heap.size, 1, none⟩ = some s ∧ w'.cell? ⟨w.heap.size, 2, none⟩ = some t ∧ w'.cell? ⟨w.heap.size + 1, 0, none⟩ = some (.bool b') ∧ w'.cell? ⟨w.heap.size + 1, 1, none⟩ = some s' ∧ w'.cell? ⟨w.heap.size + 1, 2, none⟩ = some t'))
    have HE := Lib.hid x0
    have f0 : Ext W0 W0 := Below.refl _ _
    have HN := Lib.hid (hn.below x0)
    have HD := Lib.hid (hd.below x0)
    have HM := Lib.hid (hm.below x0)
    have HE2 := Lib.hid (he.below x0)
    clear x0 hX1 hY0 hn hd hm he
    go_region_held3 (fun w' => w'.cell? ⟨w.heap.size, 0, none⟩ = some (.bool b) ∧ w'.cell? ⟨w.heap.size, 1, none⟩ = some s ∧ w'.cell? ⟨w.heap.size, 2, none⟩ = some t ∧ w'.cell? ⟨w.heap.size + 1, 0, none⟩ = some (.bool b') ∧ w'.cell? ⟨w.heap.size + 1, 1, none⟩ = some s' ∧ w'.cell? ⟨w.heap.size + 1, 2, none⟩ = some t') (exact HX.out _ (by first | ((repeat first | assumption | exact Below.refl _ _ | refine ext_alloc ?_ _ | refine ext_drew ?_ | refine ext_set ?_ (by first | omega | (simp; done) | (simp; omega)) _); done) | fail)) (first
      | (go_at_call 6; (with_reducible refine (sign_f (L := L) (AnyF.mk (NatV.below HN.out (by first | ((repeat first | assumption | exact Below.refl _ _ | refine ext_alloc ?_ _ | refine ext_drew ?_ | refine ext_set ?_ (by first | omega | (simp; done) | (simp; omega)) _); done) | fail)) (NatV.below HD.out (by first | ((repeat first | assumption | exact Below.refl _ _ | refine ext_alloc ?_ _ | refine ext_drew ?_ | refine ext_set ?_ (by first | omega | (simp; done) | (simp; omega)) _); done) | fail)) HL1.out HL2.out)).mono ?_); rintro e s1 ⟨rfl, z1⟩; have f1 : Ext W0 s1 := Ext.trans (by first | ((repeat first | assumption | exact Below.refl _ _ | refine ext_alloc ?_ _ | refine ext_drew ?_ | refine ext_set ?_ (by first | omega | (simp; done) | (simp; omega)) _); done) | fail) z1)
      | (go_at_call 6; (with_reducible refine (sign_f (L := M) (AnyF.mk (NatV.below HM.out (by first | ((repeat first | assumption | exact Below.refl _ _ | refine ext_alloc ?_ _ | refine ext_drew ?_ | refine ext_set ?_ (by first | omega | (simp; done) | (simp; omega)) _); done) | fail)) (NatV.below HE2.out (by first | ((repeat first | assumption | exact Below.refl _ _ | refine ext_alloc ?_ _ | refine ext_drew ?_ | refine ext_set ?_ (by first | omega | (simp; done) | (simp; omega)) _); done) | fail)) HL3.out HL4.out)).mono ?_); rintro e s2 ⟨rfl, z2⟩; have f2 : Ext W0 s2 := Ext.trans (by first | ((repeat first | assumption | exact Below.refl _ _ | refine ext_alloc ?_ _ | refine ext_drew ?_ | refine ext_set ?_ (by first | omega | (simp; done) | (simp; omega)) _); done) | fail) z2))
    generalize sgnQ (frac b n d) = sp at *
    generalize sgnQ (frac b' m e) = sq at *
    go_wp2
    go_ret
    exact ⟨ret_int HR.out.symm, HE.out.trans f2⟩
  · have HR := Lib.hid (sgnQ_gt_cmp hc)
    go_enter Tryz.func9, Tryz.ntmps9
    go_upto_region 1 with (fail)
    have hX0 := FBox.new w (.bool b) s t 27
    have hY0 := FBox.new (w.alloc (.cells #[.bool b, s, t] 27)) (.bool b') s' t' 27
    have hX1 := hX0.below (ext_alloc (Below.refl _ _) (.cells #[.bool b', s', t'] 27))
    have x0 : Ext w ((w.alloc (.cells #[.bool b, s, t] 27)).alloc (.cells #[.bool b', s', t'] 27)) := ext_alloc (ext_alloc (Below.refl _ _) _) _
    rw [show (w.alloc (.cells #[.bool b, s, t] 27)).heap.size = w.heap.size + 1 from by simp] at hY0
    clear hX0
    generalize (w.alloc (.cells #[.bool b, s, t] 27)).alloc (.cells #[.bool b', s', t'] 27) = W0 at *
    have HX := Lib.hid (fun (w' : World) (h : Ext W0 w') => (⟨(hX1.below h).1, (hX1.below h).2.1, (hX1.below h).2.2.1, (hY0.below h).1, (hY0.below h).2.1, (hY0.below h).2.2.1⟩ : w'.cell? ⟨w.heap.size, 0, none⟩ = some (.bool b) ∧ w'.cell? ⟨w.heap.size, 1, none⟩ = some s ∧ w'.cell? ⟨w.heap.size, 2, none⟩ = some t ∧ w'.cell? ⟨w.heap.size + 1, 0, none⟩ = some (.bool b') ∧ w'.cell? ⟨w.heap.size + 1, 1, none⟩ = some s' ∧ w'.cell? ⟨w.heap.size + 1, 2, none⟩ = some t'))
    have HE := Lib.hid x0
    have f0 : Ext W0 W0 := Below.refl _ _
    have HN := Lib.hid (hn.below x0)
    have HD := Lib.hid (hd.below x0)
    have HM := Lib.hid (hm.below x0)
    have HE2 := Lib.hid (he.below x0)
    clear x0 hX1 hY0 hn hd hm he
    go_region_held3 (fun w' => w'.cell? ⟨w.heap.size, 0, none⟩ = some (.bool b) ∧ w'.cell? ⟨w.heap.size, 1, none⟩ = some s ∧ w'.cell? ⟨w.heap.size, 2, none⟩ = some t ∧ w'.cell? ⟨w.heap.size + 1, 0, none⟩ = some (.bool b') ∧ w'.cell? ⟨w.heap.size + 1, 1, none⟩ = some s' ∧ w'.cell? ⟨w.heap.size + 1, 2, none⟩ = some t') (exact HX.out _ (by first | ((repeat first | assumption | exact Below.refl _ _ | refine ext_alloc ?_ _ | refine ext_drew ?_ | refine ext_set ?_ (by first | omega | (simp; done) | (simp; omega)) _); done) | fail)) (first
      | (go_at_call 6; (with_reducible refine (sign_f (L := L) (AnyF.mk (NatV.below HN.out (by first | ((repeat first | assumption | exact Below.refl _ _ | refine ext_alloc ?_ _ | refine ext_drew ?_ | refine ext_set ?_ (by first | omega | (simp; done) | (simp; omega)) _); done) | fail)) (NatV.below HD.out (by first | ((repeat first | assumption | exact Below.refl _ _ | refine ext_alloc ?_ _ | refine ext_drew ?_ | refine ext_set ?_ (by first | omega | (simp; done) | (simp; omega)) _); done) | fail)) HL1.out HL2.out)).mono ?_); rintro e s1 ⟨rfl, z1⟩; have f1 : Ext W0 s1 := Ext.trans (by first | ((repeat first | assumption | exact Below.refl _ _ | refine ext_alloc ?_ _ | refine ext_drew ?_ | refine ext_set ?_ (by first | omega | (simp; done) | (simp; omega)) _); done) | fail) z1)
      | (go_at_call 6; (with_reducible refine (sign_f (L := M) (AnyF.mk (NatV.below HM.out (by first | ((repeat first | assumption | exact Below.refl _ _ | refine ext_alloc ?_ _ | refine ext_drew ?_ | refine ext_set ?_ (by first | omega | (simp; done) | (simp; omega)) _); done) | fail)) (NatV.below HE2.out (by first | ((repeat first | assumption | exact Below.refl _ _ | refine ext_alloc ?_ _ | refine ext_drew ?_ | refine ext_set ?_ (by first | omega | (simp; done) | (simp; omega)) _); done) | fail)) HL3.out HL4.out)).mono ?_); rintro e s2 ⟨rfl, z2⟩; have f2 : Ext W0 s2 := Ext.trans (by first | ((repeat first | assumption | exact Below.refl _ _ | refine ext_alloc ?_ _ | refine ext_drew ?_ | refine ext_set ?_ (by first | omega | (simp; done) | (simp; omega)) _); done) | fail) z2))
    generalize sgnQ (frac b n d) = sp at *
    generalize sgnQ (frac b' m e) = sq at *
    go_wp2
    go_ret
    exact ⟨ret_int HR.out.symm, HE.out.trans f2⟩
  · have HR := Lib.hid (show cmpQ (frac b n d) (frac b' m e) = 0 from by rw [(sgnQ_eq_zero _).1 hc1, (sgnQ_eq_zero _).1 hc2]; rfl)
    go_enter Tryz.func9, Tryz.ntmps9
    go_upto_region 1 with (fail)
    have hX0 := FBox.new w (.bool b) s t 27
    have hY0 := FBox.new (w.alloc (.cells #[.bool b, s, t] 27)) (.bool b') s' t' 27
    have hX1 := hX0.below (ext_alloc (Below.refl _ _) (.cells #[.bool b', s', t'] 27))
    have x0 : Ext w ((w.alloc (.cells #[.bool b, s, t] 27)).alloc (.cells #[.bool b', s', t'] 27)) := ext_alloc (ext_alloc (Below.refl _ _) _) _
    rw [show (w.alloc (.cells #[.bool b, s, t] 27)).heap.size = w.heap.size + 1 from by simp] at hY0
    clear hX0
    generalize (w.alloc (.cells #[.bool b, s, t] 27)).alloc (.cells #[.bool b', s', t'] 27) = W0 at *
    have HX := Lib.hid (fun (w' : World) (h : Ext W0 w') => (⟨(hX1.below h).1, (hX1.below h).2.1, (hX1.below h).2.2.1, (hY0.below h).1, (hY0.below h).2.1, (hY0.below h).2.2.1⟩ : w'.cell? ⟨w.heap.size, 0, none⟩ = some (.bool b) ∧ w'.cell? ⟨w.heap.size, 1, none⟩ = some s ∧ w'.cell? ⟨w.heap.size, 2, none⟩ = some t ∧ w'.cell? ⟨w.heap.size + 1, 0, none⟩ = some (.bool b') ∧ w'.cell? ⟨w.heap.size + 1, 1, none⟩ = some s' ∧ w'.cell? ⟨w.heap.size + 1, 2, none⟩ = some t'))
    have HE := Lib.hid x0
    have f0 : Ext W0 W0 := Below.refl _ _
    have HN := Lib.hid (hn.below x0)
    have HD := Lib.hid (hd.below x0)
    have HM := Lib.hid (hm.below x0)
    have HE2 := Lib.hid (he.below x0)
    clear x0 hX1 hY0 hn hd hm he
    go_region_held3 (fun w' => w'.cell? ⟨w.heap.size, 0, none⟩ = some (.bool b) ∧ w'.cell? ⟨w.heap.size, 1, none⟩ = some s ∧ w'.cell? ⟨w.heap.size, 2, none⟩ = some t ∧ w'.cell? ⟨w.heap.size + 1, 0, none⟩ = some (.bool b') ∧ w'.cell? ⟨w.heap.size + 1, 1, none⟩ = some s' ∧ w'.cell? ⟨w.heap.size + 1, 2, none⟩ = some t') (exact HX.out _ (by first | ((repeat first | assumption | exact Below.refl _ _ | refine ext_alloc ?_ _ | refine ext_drew ?_ | refine ext_set ?_ (by first | omega | (simp; done) | (simp; omega)) _); done) | fail)) (first
      | (go_at_call 6; (with_reducible refine (sign_f (L := L) (AnyF.mk (NatV.below HN.out (by first | ((repeat first | assumption | exact Below.refl _ _ | refine ext_alloc ?_ _ | refine ext_drew ?_ | refine ext_set ?_ (by first | omega | (simp; done) | (simp; omega)) _); done) | fail)) (NatV.below HD.out (by first | ((repeat first | assumption | exact Below.refl _ _ | refine ext_alloc ?_ _ | refine ext_drew ?_ | refine ext_set ?_ (by first | omega | (simp; done) | (simp; omega)) _); done) | fail)) HL1.out HL2.out)).mono ?_); rintro e s1 ⟨rfl, z1⟩; have f1 : Ext W0 s1 := Ext.trans (by first | ((repeat first | assumption | exact Below.refl _ _ | refine ext_alloc ?_ _ | refine ext_drew ?_ | refine ext_set ?_ (by first | omega | (simp; done) | (simp; omega)) _); done) | fail) z1)
      | (go_at_call 6; (with_reducible refine (sign_f (L := M) (AnyF.mk (NatV.below HM.out (by first | ((repeat first | assumption | exact Below.refl _ _ | refine ext_alloc ?_ _ | refine ext_drew ?_ | refine ext_set ?_ (by first | omega | (simp; done) | (simp; omega)) _); done) | fail)) (NatV.below HE2.out (by first | ((repeat first | assumption | exact Below.refl _ _ | refine ext_alloc ?_ _ | refine ext_drew ?_ | refine ext_set ?_ (by first | omega | (simp; done) | (simp; omega)) _); done) | fail)) HL3.out HL4.out)).mono ?_); rintro e s2 ⟨rfl, z2⟩; have f2 : Ext W0 s2 := Ext.trans (by first | ((repeat first | assumption | exact Below.refl _ _ | refine ext_alloc ?_ _ | refine ext_drew ?_ | refine ext_set ?_ (by first | omega | (simp; done) | (simp; omega)) _); done) | fail) z2))
    clear hc1 hc2 hrange1 hrange2
    go_wp2
    go_ret
    exact ⟨ret_int HR.out.symm, HE.out.trans f2⟩
  · obtain ⟨rfl, hd0⟩ := sgnQ_one hc1
    obtain ⟨rfl, he0⟩ := sgnQ_one hc2
    have HR := Lib.hid (cmp_pos_frac (n := n) (m := m) hd0 he0)
    go_enter Tryz.func9, Tryz.ntmps9
    go_upto_region 1 with (fail)
    have hX0 := FBox.new w (.bool false) s t 27
    have hY0 := FBox.new (w.alloc (.cells #[.bool false, s, t] 27)) (.bool false) s' t' 27
    have hX1 := hX0.below (ext_alloc (Below.refl _ _) (.cells #[.bool false, s', t'] 27))
    have x0 : Ext w ((w.alloc (.cells #[.bool false, s, t] 27)).alloc (.cells #[.bool false, s', t'] 27)) := ext_alloc (ext_alloc (Below.refl _ _) _) _
    rw [show (w.alloc (.cells #[.bool false, s, t] 27)).heap.size = w.heap.size + 1 from by simp] at hY0
    clear hX0
    generalize (w.alloc (.cells #[.bool false, s, t] 27)).alloc (.cells #[.bool false, s', t'] 27) = W0 at *
    have HX := Lib.hid (fun (w' : World) (h : Ext W0 w') => (⟨(hX1.below h).1, (hX1.below h).2.1, (hX1.below h).2.2.1, (hY0.below h).1, (hY0.below h).2.1, (hY0.below h).2.2.1⟩ : w'.cell? ⟨w.heap.size, 0, none⟩ = some (.bool false) ∧ w'.cell? ⟨w.heap.size, 1, none⟩ = some s ∧ w'.cell? ⟨w.heap.size, 2, none⟩ = some t ∧ w'.cell? ⟨w.heap.size + 1, 0, none⟩ = some (.bool false) ∧ w'.cell? ⟨w.heap.size + 1, 1, none⟩ = some s' ∧ w'.cell? ⟨w.heap.size + 1, 2, none⟩ = some t'))
    have HE := Lib.hid x0
    have f0 : Ext W0 W0 := Below.refl _ _
    have HN := Lib.hid (hn.below x0)
    have HD := Lib.hid (hd.below x0)
    have HM := Lib.hid (hm.below x0)
    have HE2 := Lib.hid (he.below x0)
    clear x0 hX1 hY0 hn hd hm he
    go_region_held3 (fun w' => w'.cell? ⟨w.heap.size, 0, none⟩ = some (.bool false) ∧ w'.cell? ⟨w.heap.size, 1, none⟩ = some s ∧ w'.cell? ⟨w.heap.size, 2, none⟩ = some t ∧ w'.cell? ⟨w.heap.size + 1, 0, none⟩ = some (.bool false) ∧ w'.cell? ⟨w.heap.size + 1, 1, none⟩ = some s' ∧ w'.cell? ⟨w.heap.size + 1, 2, none⟩ = some t') (exact HX.out _ (by first | ((repeat first | assumption | exact Below.refl _ _ | refine ext_alloc ?_ _ | refine ext_drew ?_ | refine ext_set ?_ (by first | omega | (simp; done) | (simp; omega)) _); done) | fail)) (first
      | (go_at_call 6; (with_reducible refine (sign_f (L := L) (AnyF.mk (NatV.below HN.out (by first | ((repeat first | assumption | exact Below.refl _ _ | refine ext_alloc ?_ _ | refine ext_drew ?_ | refine ext_set ?_ (by first | omega | (simp; done) | (simp; omega)) _); done) | fail)) (NatV.below HD.out (by first | ((repeat first | assumption | exact Below.refl _ _ | refine ext_alloc ?_ _ | refine ext_drew ?_ | refine ext_set ?_ (by first | omega | (simp; done) | (simp; omega)) _); done) | fail)) HL1.out HL2.out)).mono ?_); rintro e s1 ⟨rfl, z1⟩; have f1 : Ext W0 s1 := Ext.trans (by first | ((repeat first | assumption | exact Below.refl _ _ | refine ext_alloc ?_ _ | refine ext_drew ?_ | refine ext_set ?_ (by first | omega | (simp; done) | (simp; omega)) _); done) | fail) z1)
      | (go_at_call 6; (with_reducible refine (sign_f (L := M) (AnyF.mk (NatV.below HM.out (by first | ((repeat first | assumption | exact Below.refl _ _ | refine ext_alloc ?_ _ | refine ext_drew ?_ | refine ext_set ?_ (by first | omega | (simp; done) | (simp; omega)) _); done) | fail)) (NatV.below HE2.out (by first | ((repeat first | assumption | exact Below.refl _ _ | refine ext_alloc ?_ _ | refine ext_drew ?_ | refine ext_set ?_ (by first | omega | (simp; done) | (simp; omega)) _); done) | fail)) HL3.out HL4.out)).mono ?_); rintro e s2 ⟨rfl, z2⟩; have f2 : Ext W0 s2 := Ext.trans (by first | ((repeat first | assumption | exact Below.refl _ _ | refine ext_alloc ?_ _ | refine ext_drew ?_ | refine ext_set ?_ (by first | omega | (simp; done) | (simp; omega)) _); done) | fail) z2))
    clear hc1 hc2 hrange1 hrange2
    go_upto_region 8 with (fail)
    have hw1 : IntKind.i64.wrap (cmpN (n * e) (m * d)) = cmpN (n * e) (m * d) := by unfold cmpN; split <;> (try split) <;> rfl
    have hw2 : IntKind.i64.wrap (-cmpN (n * e) (m * d)) = -cmpN (n * e) (m * d) := by unfold cmpN; split <;> (try split) <;> rfl
    have hw3 : IntKind.i64.wrap (-1 * cmpN (n * e) (m * d)) = -cmpN (n * e) (m * d) := by unfold cmpN; split <;> (try split) <;> rfl
    have HQ1 := Lib.hid (limbsOf_length_mul n e)
    have HQ2 := Lib.hid (limbsOf_length_mul m d)
    go_region_held3 (fun w' => w'.cell? ⟨w.heap.size, 0, none⟩ = some (.bool false) ∧ w'.cell? ⟨w.heap.size, 1, none⟩ = some s ∧ w'.cell? ⟨w.heap.size, 2, none⟩ = some t ∧ w'.cell? ⟨w.heap.size + 1, 0, none⟩ = some (.bool false) ∧ w'.cell? ⟨w.heap.size + 1, 1, none⟩ = some s' ∧ w'.cell? ⟨w.heap.size + 1, 2, none⟩ = some t') (exact HX.out _ (by first | ((repeat first | assumption | exact Below.refl _ _ | refine ext_alloc ?_ _ | refine ext_drew ?_ | refine ext_set ?_ (by first | omega | (simp; done) | (simp; omega)) _); done) | fail)) (first
      | (go_at_call 24; (with_reducible refine (mul_n (NatV.below HN.out (by first | ((repeat first | assumption | exact Below.refl _ _ | refine ext_alloc ?_ _ | refine ext_drew ?_ | refine ext_set ?_ (by first | omega | (simp; done) | (simp; omega)) _); done) | fail)) (NatV.below HE2.out (by first | ((repeat first | assumption | exact Below.refl _ _ | refine ext_alloc ?_ _ | refine ext_drew ?_ | refine ext_set ?_ (by first | omega | (simp; done) | (simp; omega)) _); done) | fail)) (by have := HL1.out; have := HL4.out; have := HLI.out; omega)).mono ?_); rintro _ s3 ⟨A3, k3, c3, rfl, h3, z3, _⟩; have f3 : Ext W0 s3 := Ext.trans f2 (Ext.trans (by first | ((repeat first | assumption | exact Below.refl _ _ | refine ext_alloc ?_ _ | refine ext_drew ?_ | refine ext_set ?_ (by first | omega | (simp; done) | (simp; omega)) _); done) | fail) z3))
      | (go_at_call 24; (with_reducible refine (mul_n (NatV.below HM.out (by first | ((repeat first | assumption | exact Below.refl _ _ | refine ext_alloc ?_ _ | refine ext_drew ?_ | refine ext_set ?_ (by first | omega | (simp; done) | (simp; omega)) _); done) | fail)) (NatV.below HD.out (by first | ((repeat first | assumption | exact Below.refl _ _ | refine ext_alloc ?_ _ | refine ext_drew ?_ | refine ext_set ?_ (by first | omega | (simp; done) | (simp; omega)) _); done) | fail)) (by have := HL3.out; have := HL2.out; have := HLI.out; omega)).mono ?_); rintro _ s4 ⟨A4, k4, c4, rfl, h4, z4, _⟩; have f4 : Ext W0 s4 := Ext.trans (by first | ((repeat first | assumption | exact Below.refl _ _ | refine ext_alloc ?_ _ | refine ext_drew ?_ | refine ext_set ?_ (by first | omega | (simp; done) | (simp; omega)) _); done) | fail) z4)
      | (go_at_call 23; (with_reducible refine (cmp_n (NatV.below (CanV.nat h3 (by have := HQ1.out; have := HL1.out; have := HL4.out; have := HLI.out; unfold Fit; omega)) (by first | ((repeat first | assumption | exact Below.refl _ _ | refine ext_alloc ?_ _ | refine ext_drew ?_ | refine ext_set ?_ (by first | omega | (simp; done) | (simp; omega)) _); done) | fail)) (CanV.nat h4 (by have := HQ2.out; have := HL3.out; have := HL2.out; have := HLI.out; unfold Fit; omega))).mono ?_); rintro _ s5 ⟨rfl, z5⟩; have f5 : Ext W0 s5 := Ext.trans (by first | ((repeat first | assumption | exact Below.refl _ _ | refine ext_alloc ?_ _ | refine ext_drew ?_ | refine ext_set ?_ (by first | omega | (simp; done) | (simp; omega)) _); done) | fail) z5))
    go_wp2
    go_ret
    exact ⟨ret_int (by rw [HR.out]), HE.out.trans f5⟩
  · obtain ⟨rfl, hd0⟩ := sgnQ_minus hc1
    obtain ⟨rfl, he0⟩ := sgnQ_minus hc2
    have HR := Lib.hid (cmp_neg_frac (n := n) (m := m) hd0 he0)
    go_enter Tryz.func9, Tryz.ntmps9
    go_upto_region 1 with (fail)
    have hX0 := FBox.new w (.bool true) s t 27
    have hY0 := FBox.new (w.alloc (.cells #[.bool true, s, t] 27)) (.bool true) s' t' 27
    have hX1 := hX0.below (ext_alloc (Below.refl _ _) (.cells #[.bool true, s', t'] 27))
    have x0 : Ext w ((w.alloc (.cells #[.bool true, s, t] 27)).alloc (.cells #[.bool true, s', t'] 27)) := ext_alloc (ext_alloc (Below.refl _ _) _) _
    rw [show (w.alloc (.cells #[.bool true, s, t] 27)).heap.size = w.heap.size + 1 from by simp] at hY0
    clear hX0
    generalize (w.alloc (.cells #[.bool true, s, t] 27)).alloc (.cells #[.bool true, s', t'] 27) = W0 at *
    have HX := Lib.hid (fun (w' : World) (h : Ext W0 w') => (⟨(hX1.below h).1, (hX1.below h).2.1, (hX1.below h).2.2.1, (hY0.below h).1, (hY0.below h).2.1, (hY0.below h).2.2.1⟩ : w'.cell? ⟨w.heap.size, 0, none⟩ = some (.bool true) ∧ w'.cell? ⟨w.heap.size, 1, none⟩ = some s ∧ w'.cell? ⟨w.heap.size, 2, none⟩ = some t ∧ w'.cell? ⟨w.heap.size + 1, 0, none⟩ = some (.bool true) ∧ w'.cell? ⟨w.heap.size + 1, 1, none⟩ = some s' ∧ w'.cell? ⟨w.heap.size + 1, 2, none⟩ = some t'))
    have HE := Lib.hid x0
    have f0 : Ext W0 W0 := Below.refl _ _
    have HN := Lib.hid (hn.below x0)
    have HD := Lib.hid (hd.below x0)
    have HM := Lib.hid (hm.below x0)
    have HE2 := Lib.hid (he.below x0)
    clear x0 hX1 hY0 hn hd hm he
    go_region_held3 (fun w' => w'.cell? ⟨w.heap.size, 0, none⟩ = some (.bool true) ∧ w'.cell? ⟨w.heap.size, 1, none⟩ = some s ∧ w'.cell? ⟨w.heap.size, 2, none⟩ = some t ∧ w'.cell? ⟨w.heap.size + 1, 0, none⟩ = some (.bool true) ∧ w'.cell? ⟨w.heap.size + 1, 1, none⟩ = some s' ∧ w'.cell? ⟨w.heap.size + 1, 2, none⟩ = some t') (exact HX.out _ (by first | ((repeat first | assumption | exact Below.refl _ _ | refine ext_alloc ?_ _ | refine ext_drew ?_ | refine ext_set ?_ (by first | omega | (simp; done) | (simp; omega)) _); done) | fail)) (first
      | (go_at_call 6; (with_reducible refine (sign_f (L := L) (AnyF.mk (NatV.below HN.out (by first | ((repeat first | assumption | exact Below.refl _ _ | refine ext_alloc ?_ _ | refine ext_drew ?_ | refine ext_set ?_ (by first | omega | (simp; done) | (simp; omega)) _); done) | fail)) (NatV.below HD.out (by first | ((repeat first | assumption | exact Below.refl _ _ | refine ext_alloc ?_ _ | refine ext_drew ?_ | refine ext_set ?_ (by first | omega | (simp; done) | (simp; omega)) _); done) | fail)) HL1.out HL2.out)).mono ?_); rintro e s1 ⟨rfl, z1⟩; have f1 : Ext W0 s1 := Ext.trans (by first | ((repeat first | assumption | exact Below.refl _ _ | refine ext_alloc ?_ _ | refine ext_drew ?_ | refine ext_set ?_ (by first | omega | (simp; done) | (simp; omega)) _); done) | fail) z1)
      | (go_at_call 6; (with_reducible refine (sign_f (L := M) (AnyF.mk (NatV.below HM.out (by first | ((repeat first | assumption | exact Below.refl _ _ | refine ext_alloc ?_ _ | refine ext_drew ?_ | refine ext_set ?_ (by first | omega | (simp; done) | (simp; omega)) _); done) | fail)) (NatV.below HE2.out (by first | ((repeat first | assumption | exact Below.refl _ _ | refine ext_alloc ?_ _ | refine ext_drew ?_ | refine ext_set ?_ (by first | omega | (simp; done) | (simp; omega)) _); done) | fail)) HL3.out HL4.out)).mono ?_); rintro e s2 ⟨rfl, z2⟩; have f2 : Ext W0 s2 := Ext.trans (by first | ((repeat first | assumption | exact Below.refl _ _ | refine ext_alloc ?_ _ | refine ext_drew ?_ | refine ext_set ?_ (by first | omega | (simp; done) | (simp; omega)) _); done) | fail) z2))
    clear hc1 hc2 hrange1 hrange2
    go_upto_region 8 with (fail)
    have hw1 : IntKind.i64.wrap (cmpN (n * e) (m * d)) = cmpN (n * e) (m * d) := by unfold cmpN; split <;> (try split) <;> rfl
    have hw2 : IntKind.i64.wrap (-cmpN (n * e) (m * d)) = -cmpN (n * e) (m * d) := by unfold cmpN; split <;> (try split) <;> rfl
    have hw3 : IntKind.i64.wrap (-1 * cmpN (n * e) (m * d)) = -cmpN (n * e) (m * d) := by unfold cmpN; split <;> (try split) <;> rfl
    have HQ1 := Lib.hid (limbsOf_length_mul n e)
    have HQ2 := Lib.hid (limbsOf_length_mul m d)
    go_region_held3 (fun w' => w'.cell? ⟨w.heap.size, 0, none⟩ = some (.bool true) ∧ w'.cell? ⟨w.heap.size, 1, none⟩ = some s ∧ w'.cell? ⟨w.heap.size, 2, none⟩ = some t ∧ w'.cell? ⟨w.heap.size + 1, 0, none⟩ = some (.bool true) ∧ w'.cell? ⟨w.heap.size + 1, 1, none⟩ = some s' ∧ w'.cell? ⟨w.heap.size + 1, 2, none⟩ = some t') (exact HX.out _ (by first | ((repeat first | assumption | exact Below.refl _ _ | refine ext_alloc ?_ _ | refine ext_drew ?_ | refine ext_set ?_ (by first | omega | (simp; done) | (simp; omega)) _); done) | fail)) (first
      | (go_at_call 24; (with_reducible refine (mul_n (NatV.below HN.out (by first | ((repeat first | assumption | exact Below.refl _ _ | refine ext_alloc ?_ _ | refine ext_drew ?_ | refine ext_set ?_ (by first | omega | (simp; done) | (simp; omega)) _); done) | fail)) (NatV.below HE2.out (by first | ((repeat first | assumption | exact Below.refl _ _ | refine ext_alloc ?_ _ | refine ext_drew ?_ | refine ext_set ?_ (by first | omega | (simp; done) | (simp; omega)) _); done) | fail)) (by have := HL1.out; have := HL4.out; have := HLI.out; omega)).mono ?_); rintro _ s3 ⟨A3, k3, c3, rfl, h3, z3, _⟩; have f3 : Ext W0 s3 := Ext.trans f2 (Ext.trans (by first | ((repeat first | assumption | exact Below.refl _ _ | refine ext_alloc ?_ _ | refine ext_drew ?_ | refine ext_set ?_ (by first | omega | (simp; done) | (simp; omega)) _); done) | fail) z3))
      | (go_at_call 24; (with_reducible refine (mul_n (NatV.below HM.out (by first | ((repeat first | assumption | exact Below.refl _ _ | refine ext_alloc ?_ _ | refine ext_drew ?_ | refine ext_set ?_ (by first | omega | (simp; done) | (simp; omega)) _); done) | fail)) (NatV.below HD.out (by first | ((repeat first | assumption | exact Below.refl _ _ | refine ext_alloc ?_ _ | refine ext_drew ?_ | refine ext_set ?_ (by first | omega | (simp; done) | (simp; omega)) _); done) | fail)) (by have := HL3.out; have := HL2.out; have := HLI.out; omega)).mono ?_); rintro _ s4 ⟨A4, k4, c4, rfl, h4, z4, _⟩; have f4 : Ext W0 s4 := Ext.trans (by first | ((repeat first | assumption | exact Below.refl _ _ | refine ext_alloc ?_ _ | refine ext_drew ?_ | refine ext_set ?_ (by first | omega | (simp; done) | (simp; omega)) _); done) | fail) z4)
      | (go_at_call 23; (with_reducible refine (cmp_n (NatV.below (CanV.nat h3 (by have := HQ1.out; have := HL1.out; have := HL4.out; have := HLI.out; unfold Fit; omega)) (by first | ((repeat first | assumption | exact Below.refl _ _ | refine ext_alloc ?_ _ | refine ext_drew ?_ | refine ext_set ?_ (by first | omega | (simp; done) | (simp; omega)) _); done) | fail)) (CanV.nat h4 (by have := HQ2.out; have := HL3.out; have := HL2.out; have := HLI.out; unfold Fit; omega))).mono ?_); rintro _ s5 ⟨rfl, z5⟩; have f5 : Ext W0 s5 := Ext.trans (by first | ((repeat first | assumption | exact Below.refl _ _ | refine ext_alloc ?_ _ | refine ext_drew ?_ | refine ext_set ?_ (by first | omega | (simp; done) | (simp; omega)) _); done) | fail) z5))
    go_wp2
    go_ret
    exact ⟨ret_int (by rw [HR.out]), HE.out.trans f5⟩

end Go.Proofs.YtbplkienkhinmaaGreatDoor
