/- The fixed calls of the statements about occupancy, sampling, estimator and confidence together. -/
import Derived.Test.YtnedgbebajhcpaaDoorOcW
import Derived.Test.YtnedgbebajhcpaaDoorSamA
import Derived.Test.YtnedgbebajhcpaaDoorConB
import Derived.Test.YtnedgbebajhcpaaDoorEstG
set_option linter.unusedVariables false
set_option linter.unusedSimpArgs false
set_option maxRecDepth 100000
namespace Go.Proofs.YtnedgbebajhcpaaDoor
open Go.RowKit Num

theorem GivesP.fe {w w' : World} {q : Rat} {e : Ending} (h : GivesP w (decide (q < 0)) q.num.natAbs q.den 0 e w') : GivesFE w q e w' := by
  obtain ⟨A, k, c, A', k', c', rfl, h1, h2, hE, hn, hn'⟩ := h
  exact ⟨_, A, k, c, A', k', c', rfl, ⟨rfl, h1, h2⟩, hE, hn, hn'⟩
theorem fbQ {q : Rat} (h1 : q.num.natAbs < 1000000000) (h2 : q.den < 1000000000) : FB q 1 := ⟨len_small h1, len_small h2⟩
theorem ints_lit3_ (w : World) (a b c : Int) : IntsV (w.alloc (.cells #[.int .i64 a, .int .i64 b, .int .i64 c] 3)) (.slice (some ⟨w.heap.size, 0, none⟩) 3 3) [a, b, c] :=
  IntsV.of_own (base := w.heap.size) (e := 3) (n := 3) (World.ownsRow_lit (base := w.heap.size) (size := 1) w #[.int .i64 a, .int .i64 b, .int .i64 c] 3 (Nat.le_refl _) (by unfold maxLen; omega) rfl)
theorem samp131_ : Samp [1, 3, 1] := ⟨by decide, fun k hk => by
  rcases (by simp at hk; omega : k = 0 ∨ k = 1 ∨ k = 2) with e | e | e <;> subst e <;> decide, by decide⟩
theorem good131_ : ((((([1, 3, 1] : List Int).length : Int) * ([1, 3, 1] : List Int).sum : Int) : Rat) / ((([1, 3, 1] : List Int).sum - (seen [1, 3, 1] 1 : Int) : Int) : Rat)) = 5 := by
  rw [show ((([1, 3, 1] : List Int).length : Int) * ([1, 3, 1] : List Int).sum : Int) = 15 from by decide, show (([1, 3, 1] : List Int).sum - (seen [1, 3, 1] 1 : Int) : Int) = 3 from by decide]
  grind
theorem exp121v : meanQ (1 + 1) 2 - meanQ 1 2 = mkRat 1 2 := by decide +kernel
theorem rat3232v : pchI 3 3 2 / pchI 3 2 2 = mkRat 8 9 := by decide +kernel
theorem p322ne : pchI 3 2 2 ≠ 0 := by decide +kernel
theorem m12 : (mkRat 1 2).num = 1 ∧ (mkRat 1 2).den = 2 := by decide
theorem m89 : (mkRat 8 9).num = 8 ∧ (mkRat 8 9).den = 9 := by decide
theorem m51 : (5 : Rat).num = 5 ∧ (5 : Rat).den = 1 := by decide
theorem t12 : (ByteArray.mk (ftxt 1 2).toArray) = ⟨#[49, 47, 50]⟩ := by simp [ftxt, Lib.decDigits]
theorem t89 : (ByteArray.mk (ftxt 8 9).toArray) = ⟨#[56, 47, 57]⟩ := by simp [ftxt, Lib.decDigits]
theorem t5 : (ByteArray.mk (ftxt 5 1).toArray) = ⟨#[53]⟩ := by simp [ftxt, Lib.decDigits]
theorem fb12 : FB (mkRat 1 2) 1 := fbQ (by rw [m12.1]; decide) (by rw [m12.2]; decide)
theorem fb89 : FB (mkRat 8 9) 1 := fbQ (by rw [m89.1]; decide) (by rw [m89.2]; decide)
theorem fb51 : FB (5 : Rat) 1 := fbQ (by rw [m51.1]; decide) (by rw [m51.2]; decide)
theorem exp121 {w : World} (ht : Tab10 w) : Calls Tryd.prog 10 #[.int .i64 1, .int .i64 2, .int .i64 1] w (GivesFE w (mkRat 1 2)) := by
  have h := sexp_ok (n := 1) (D := 2) (m := 1) (w := w) (by omega) (by omega) (by omega) ht
  rw [exp121v] at h
  exact h
theorem rat3232 {w : World} : Calls Tryd.prog 30 #[.int .i64 3, .int .i64 2, .int .i64 3, .int .i64 2] w (GivesFE w (mkRat 8 9)) := by
  have h := kratio_ok (n := 3) (d := 2) (D := 3) (E := 2) (w := w) (by omega) (by omega) (by omega) (by omega) p322ne
  rw [show pchI 3 3 ((2 : Nat) : Int) / pchI 3 2 ((2 : Nat) : Int) = mkRat 8 9 from rat3232v] at h
  exact h.mono fun _ _ h => h.fe
theorem good131c (w : World) : Calls Tryd.prog 29 #[.slice (some ⟨w.heap.size, 0, none⟩) 3 3] (w.alloc (.cells #[.int .i64 1, .int .i64 3, .int .i64 1] 3)) (GivesFE (w.alloc (.cells #[.int .i64 1, .int .i64 3, .int .i64 1] 3)) 5) := by
  have h := egood_ok (w := w.alloc (.cells #[.int .i64 1, .int .i64 3, .int .i64 1] 3)) (ints_lit3_ w 1 3 1) samp131_ (by decide)
  rw [good131_] at h
  exact h

set_option maxHeartbeats 8000000 in
theorem topawake {w : World} (ht : Tab10 w) : Calls Tryd.prog 9 #[] w (fun e w' => e = .returned (.bool true) ∧ Ext w w') := by
  have HT := Lib.hid (fun (w' : World) (h : Ext w w') => ht.ext h)
  clear ht
  go_enter Tryd.func9, Tryd.ntmps9
  go_wp2_with fail
  refine (ch322).mono ?_
  rintro e w1 ⟨b1, A1, k1, c1, A1', k1', c1', rfl, h1, y1, n1, n1'⟩
  clear n1 n1'
  go_upto_region 2 with (fail)
  have hG1 := FBox.new w1 (.bool b1) (.slice A1 k1 c1) (.slice A1' k1' c1') 28
  have Y1 : Ext w (w1.alloc (.cells #[.bool b1, .slice A1 k1 c1, .slice A1' k1' c1'] 28)) := ext_alloc y1 _
  have h1 := h1.below (ext_alloc (Below.refl _ _) (.cells #[.bool b1, .slice A1 k1 c1, .slice A1' k1' c1'] 28))
  have hsz1 : w1.heap.size < (w1.alloc (.cells #[.bool b1, .slice A1 k1 c1, .slice A1' k1' c1'] 28)).heap.size := by simp
  generalize w1.alloc (.cells #[.bool b1, .slice A1 k1 c1, .slice A1' k1' c1'] 28) = W1 at *
  generalize w1.heap.size = B1 at *
  have HG1 := Lib.hid (fun (w' : World) (h : Ext W1 w') => hG1.below h)
  have HP1 := Lib.hid (fun (w' : World) (h : Ext W1 w') => FracV.any (h1.below h) (fb34) (by omega))
  have HB1 := Lib.hid (fun (w' : World) (h : Ext W1 w') => h1.below h)
  clear hG1 h1 y1 hsz1
  go_wp2_with fail
  refine (exp121 (HT.out _ Y1)).mono ?_
  rintro e w2 ⟨b2, A2, k2, c2, A2', k2', c2', rfl, h2, y2, n2, n2'⟩
  clear n2 n2'
  go_upto_region 3 with (fail)
  have hG2 := FBox.new w2 (.bool b2) (.slice A2 k2 c2) (.slice A2' k2' c2') 28
  have Y2 : Ext W1 (w2.alloc (.cells #[.bool b2, .slice A2 k2 c2, .slice A2' k2' c2'] 28)) := ext_alloc y2 _
  have h2 := h2.below (ext_alloc (Below.refl _ _) (.cells #[.bool b2, .slice A2 k2 c2, .slice A2' k2' c2'] 28))
  have hsz2 : w2.heap.size < (w2.alloc (.cells #[.bool b2, .slice A2 k2 c2, .slice A2' k2' c2'] 28)).heap.size := by simp
  generalize w2.alloc (.cells #[.bool b2, .slice A2 k2 c2, .slice A2' k2' c2'] 28) = W2 at *
  generalize w2.heap.size = B2 at *
  have HG2 := Lib.hid (fun (w' : World) (h : Ext W2 w') => hG2.below h)
  have HP2 := Lib.hid (fun (w' : World) (h : Ext W2 w') => FracV.any (h2.below h) (fb12) (by omega))
  have HB2 := Lib.hid (fun (w' : World) (h : Ext W2 w') => h2.below h)
  clear hG2 h2 y2 hsz2
  go_wp2_with fail
  refine (good131c _).mono ?_
  rintro e w3 ⟨b3, A3, k3, c3, A3', k3', c3', rfl, h3, y3, n3, n3'⟩
  clear n3 n3'
  have y3 : Ext W2 w3 := (ext_alloc (Below.refl _ _) _).trans y3
  go_upto_region 4 with (fail)
  have hG3 := FBox.new w3 (.bool b3) (.slice A3 k3 c3) (.slice A3' k3' c3') 28
  have Y3 : Ext W2 (w3.alloc (.cells #[.bool b3, .slice A3 k3 c3, .slice A3' k3' c3'] 28)) := ext_alloc y3 _
  have h3 := h3.below (ext_alloc (Below.refl _ _) (.cells #[.bool b3, .slice A3 k3 c3, .slice A3' k3' c3'] 28))
  have hsz3 : w3.heap.size < (w3.alloc (.cells #[.bool b3, .slice A3 k3 c3, .slice A3' k3' c3'] 28)).heap.size := by simp
  generalize w3.alloc (.cells #[.bool b3, .slice A3 k3 c3, .slice A3' k3' c3'] 28) = W3 at *
  generalize w3.heap.size = B3 at *
  have HG3 := Lib.hid (fun (w' : World) (h : Ext W3 w') => hG3.below h)
  have HP3 := Lib.hid (fun (w' : World) (h : Ext W3 w') => FracV.any (h3.below h) fb51 (by omega))
  clear hG3 h3 y3 hsz3
  go_wp2_with fail
  refine (rat3232).mono ?_
  rintro e w4 ⟨b4, A4, k4, c4, A4', k4', c4', rfl, h4, y4, n4, n4'⟩
  clear n4 n4'
  go_upto_region 5 with (fail)
  have hG4 := FBox.new w4 (.bool b4) (.slice A4 k4 c4) (.slice A4' k4' c4') 28
  have Y4 : Ext W3 (w4.alloc (.cells #[.bool b4, .slice A4 k4 c4, .slice A4' k4' c4'] 28)) := ext_alloc y4 _
  have h4 := h4.below (ext_alloc (Below.refl _ _) (.cells #[.bool b4, .slice A4 k4 c4, .slice A4' k4' c4'] 28))
  have hsz4 : w4.heap.size < (w4.alloc (.cells #[.bool b4, .slice A4 k4 c4, .slice A4' k4' c4'] 28)).heap.size := by simp
  generalize w4.alloc (.cells #[.bool b4, .slice A4 k4 c4, .slice A4' k4' c4'] 28) = W4 at *
  generalize w4.heap.size = B4 at *
  have HG4 := Lib.hid (fun (w' : World) (h : Ext W4 w') => hG4.below h)
  have HP4 := Lib.hid (fun (w' : World) (h : Ext W4 w') => FracV.any (h4.below h) (fb89) (by omega))
  have HB4 := Lib.hid (fun (w' : World) (h : Ext W4 w') => h4.below h)
  clear hG4 h4 y4 hsz4
  have E3 : Ext W3 W4 := Y4
  have E2 : Ext W2 W4 := Y3.trans E3
  have E1 : Ext W1 W4 := Y2.trans E2
  have HC := Lib.hid (fun (w' : World) (h : Ext W4 w') => (⟨HG1.out _ (E1.trans h), HG2.out _ (E2.trans h), HG3.out _ (E3.trans h), HG4.out _ h⟩ : _ ∧ _ ∧ _ ∧ _))
  obtain ⟨⟨p0, p1, p2, _, _, _⟩, ⟨q0, q1, q2, _, _, _⟩, ⟨r0, r1, r2, _, _, _⟩, s0, s1, s2, _, _, _⟩ := HC.out _ (Below.refl _ _)
  have f0 : Ext W4 W4 := Below.refl _ _
  have HT4 := Lib.hid (fun (w' : World) (h : Ext W4 w') => HT.out _ (Y1.trans (E1.trans h)))
  have e34 := t34
  have e12 := t12
  have e5 := t5
  have e89 := t89
  go_wp2_with (first
    | (go_at_call 31; (with_reducible refine (ftext_f (n := 3) (d := 4) (HP1.out _ (E1.trans f0)) (by omega) (by decide) (by decide) (by decide) (by omega) (by omega) (by omega) (HT4.out _ f0)).mono ?_); rintro e s1 ⟨rfl, z7⟩; have f0 := Ext.trans f0 z7; obtain ⟨⟨p0, p1, p2, _, _, _⟩, ⟨q0, q1, q2, _, _, _⟩, ⟨r0, r1, r2, _, _, _⟩, s0, s1, s2, _, _, _⟩ := HC.out _ f0)
    | (go_at_call 31; (with_reducible refine (ftext_f (n := 1) (d := 2) (HP2.out _ (E2.trans f0)) (by omega) (by decide) (by decide) (by decide) (by omega) (by omega) (by omega) (HT4.out _ f0)).mono ?_); rintro e s1 ⟨rfl, z7⟩; have f0 := Ext.trans f0 z7; obtain ⟨⟨p0, p1, p2, _, _, _⟩, ⟨q0, q1, q2, _, _, _⟩, ⟨r0, r1, r2, _, _, _⟩, s0, s1, s2, _, _, _⟩ := HC.out _ f0)
    | (go_at_call 31; (with_reducible refine (ftext_f (n := 5) (d := 1) (HP3.out _ (E3.trans f0)) (by omega) (by decide) (by decide) (by decide) (by omega) (by omega) (by omega) (HT4.out _ f0)).mono ?_); rintro e s1 ⟨rfl, z7⟩; have f0 := Ext.trans f0 z7; obtain ⟨⟨p0, p1, p2, _, _, _⟩, ⟨q0, q1, q2, _, _, _⟩, ⟨r0, r1, r2, _, _, _⟩, s0, s1, s2, _, _, _⟩ := HC.out _ f0)
    | (go_at_call 31; (with_reducible refine (ftext_f (n := 8) (d := 9) (HP4.out _ f0) (by omega) (by decide) (by decide) (by decide) (by omega) (by omega) (by omega) (HT4.out _ f0)).mono ?_); rintro e s1 ⟨rfl, z7⟩; have f0 := Ext.trans f0 z7))
  go_ret
  exact ⟨rfl, Y1.trans (E1.trans f0)⟩

end Go.Proofs.YtnedgbebajhcpaaDoor
