/- The estimator's fixed calls: plain facts. The estimator's awake. The estimator's laws: both implementations at once. -/
import Derived.Test.YtfnngchanhnaiaaDoorEstH
import Derived.Test.YtfnngchanhnaiaaDoorFracT
import Derived.Test.YtfnngchanhnaiaaDoorEstRef
import Derived.Test.YtfnngchanhnaiaaDoorFrac
import Derived.Test.YtfnngchanhnaiaaDoorKeep
import Derived.Test.YtfnngchanhnaiaaDoorKeepB
set_option linter.unusedVariables false
set_option linter.unusedSimpArgs false
set_option maxRecDepth 100000
namespace Go.Proofs.YtfnngchanhnaiaaDoor
open Go.RowKit Num

theorem ints_lit3 (w : World) (a b c : Int) : IntsV (w.alloc (.cells #[.int .i64 a, .int .i64 b, .int .i64 c] 3)) (.slice (some ⟨w.heap.size, 0, none⟩) 3 3) [a, b, c] :=
  IntsV.of_own (base := w.heap.size) (e := 3) (n := 3) (World.ownsRow_lit (base := w.heap.size) (size := 1) w #[.int .i64 a, .int .i64 b, .int .i64 c] 3 (Nat.le_refl _) (by unfold maxLen; omega) rfl)
theorem samp131 : Samp [1, 3, 1] := ⟨by decide, fun k hk => by
  rcases (by simp at hk; omega : k = 0 ∨ k = 1 ∨ k = 2) with e | e | e <;> subst e <;> decide, by decide⟩
theorem samp222 : Samp [2, 2, 2] := ⟨by decide, fun k hk => by
  rcases (by simp at hk; omega : k = 0 ∨ k = 1 ∨ k = 2) with e | e | e <;> subst e <;> decide, by decide⟩
theorem freqs131 : freqs [1, 3, 1] = [2, 0, 1] := by decide
theorem seen131 : seen [1, 3, 1] 1 = 2 := by decide
theorem good131 : ((((([1, 3, 1] : List Int).length : Int) * ([1, 3, 1] : List Int).sum : Int) : Rat) / ((([1, 3, 1] : List Int).sum - (seen [1, 3, 1] 1 : Int) : Int) : Rat)) = 5 := by
  rw [show ((([1, 3, 1] : List Int).length : Int) * ([1, 3, 1] : List Int).sum : Int) = 15 from by decide, show (([1, 3, 1] : List Int).sum - (seen [1, 3, 1] 1 : Int) : Int) = 3 from by decide]
  grind
theorem carter222 : ((carN ([2, 2, 2] : List Int).sum ([2, 2, 2] : List Int).length : Rat) / (carD ([2, 2, 2] : List Int).sum ([2, 2, 2] : List Int).length : Rat)) = mkRat 375 77 := by
  rw [show carN ([2, 2, 2] : List Int).sum ([2, 2, 2] : List Int).length = 18000 from by decide, show carD ([2, 2, 2] : List Int).sum ([2, 2, 2] : List Int).length = 3696 from by decide, Rat.mkRat_eq_div]
  grind

end Go.Proofs.YtfnngchanhnaiaaDoor
namespace Go.Proofs.YtfnngchanhnaiaaDoor
open Go.RowKit Num

theorem t5 : (ByteArray.mk (ftxt 5 1).toArray) = ⟨#[53]⟩ := by simp [ftxt, Lib.decDigits]
theorem t375 : (ByteArray.mk (ftxt 375 77).toArray) = ⟨#[51, 55, 53, 47, 55, 55]⟩ := by simp [ftxt, Lib.decDigits]
theorem fb5 : FB (5 : Rat) 1 := ⟨by show (limbsOf 5).length ≤ 1; rw [limbsOf_one (by omega) (by omega)]; simp, by show (limbsOf 1).length ≤ 1; rw [limbsOf_one (by omega) (by omega)]; simp⟩
theorem m375 : (mkRat 375 77).num = 375 ∧ (mkRat 375 77).den = 77 := by decide
theorem fb375 : FB (mkRat 375 77) 1 := ⟨by rw [m375.1]; show (limbsOf 375).length ≤ 1; rw [limbsOf_one (by omega) (by omega)]; simp, by rw [m375.2]; rw [limbsOf_one (by omega) (by omega)]; simp⟩

set_option maxHeartbeats 4000000 in
theorem eawake {w : World} (htab : Tab10 w) : Calls Tryd.prog 5 #[] w (fun e w' => e = .returned (.bool true) ∧ Ext w w') := by
  have hl3 : (freqs [1, 3, 1]).length = 3 := by decide
  go_enter Tryd.func5, Tryd.ntmps5
  go_upto_region 2 with (go_at_call 10; (with_reducible refine (efreq_ok (ints_lit3 w 1 3 1) samp131).mono ?_); rintro e w1 ⟨A1, c1, rfl, h1, x1, n1⟩)
  have y1 : Ext w w1 := ext_new x1
  clear x1
  rw [freqs131] at h1
  have h1 : IntsV w1 (.slice A1 3 c1) [2, 0, 1] := h1
  go_upto_region 3 with (go_at_call 11; (with_reducible refine (egood_ok (ints_lit3 w1 1 3 1) samp131 (by decide)).mono ?_); rintro e w2 ⟨b2, A2, k2, c2, A2', k2', c2', rfl, h2, x2, n2, n2'⟩)
  rw [good131] at h2
  have y2 : Ext w1 w2 := ext_new x2
  have hG := FBox.new w2 (.bool b2) (.slice A2 k2 c2) (.slice A2' k2' c2') 38
  have y3 : Ext w1 (w2.alloc (.cells #[.bool b2, .slice A2 k2 c2, .slice A2' k2' c2'] 38)) := ext_alloc y2 _
  have h2' := h2.below (ext_alloc (Below.refl _ _) (.cells #[.bool b2, .slice A2 k2 c2, .slice A2' k2' c2'] 38))
  clear x2 n1 n2 n2' h2
  generalize w2.alloc (.cells #[.bool b2, .slice A2 k2 c2, .slice A2' k2' c2'] 38) = W3 at *
  generalize w2.heap.size = B at *
  go_upto_region 4 with (go_at_call 12; (with_reducible refine (ecart_ok (ints_lit3 W3 2 2 2) samp222).mono ?_); rintro e w4 ⟨b4, A4, k4, c4, A4', k4', c4', rfl, h4, x4, n4, n4'⟩)
  rw [carter222] at h4
  have y4 : Ext W3 w4 := ext_new x4
  have hC := FBox.new w4 (.bool b4) (.slice A4 k4 c4) (.slice A4' k4' c4') 38
  have y5 : Ext W3 (w4.alloc (.cells #[.bool b4, .slice A4 k4 c4, .slice A4' k4' c4'] 38)) := ext_alloc y4 _
  have h4' := h4.below (ext_alloc (Below.refl _ _) (.cells #[.bool b4, .slice A4 k4 c4, .slice A4' k4' c4'] 38))
  clear x4 n4 n4' h4
  generalize w4.alloc (.cells #[.bool b4, .slice A4 k4 c4, .slice A4' k4' c4'] 38) = W5 at *
  generalize w4.heap.size = D at *
  have HG := Lib.hid (fun (w' : World) (h : Ext W5 w') => hG.below (y5.trans h))
  have HC := Lib.hid (fun (w' : World) (h : Ext W5 w') => hC.below h)
  have HFQ := Lib.hid (fun (w' : World) (h : Ext W5 w') => h2'.below (y5.trans h))
  have HFC := Lib.hid (fun (w' : World) (h : Ext W5 w') => h4'.below h)
  have HI := Lib.hid (fun (w' : World) (h : Ext W5 w') => h1.below (y3.trans (y5.trans h)))
  have HT := Lib.hid (fun (w' : World) (h : Ext W5 w') => htab.ext (y1.trans (y3.trans (y5.trans h))))
  obtain ⟨r0, r1, r2, _, _, _⟩ := HG.out _ (Below.refl _ _)
  obtain ⟨b0, b1, b2, _, _, _⟩ := HC.out _ (Below.refl _ _)
  have hE0 := y1.trans (y3.trans y5)
  have e5 := t5
  have e375 := t375
  have f0 : Ext W5 W5 := Below.refl _ _
  clear hG hC h2' h4' h1 htab y1 y2 y3 y4 y5
  go_wp2_with (first
    | (go_at_call 8; (with_reducible refine (bints_same (HI.out _ (by first | ((repeat first | assumption | exact Below.refl _ _ | refine ext_alloc ?_ _ | refine ext_drew ?_ | refine ext_set ?_ (by first | omega | (simp; done) | (simp; omega)) _); done) | fail)) (ints_lit3 _ 2 0 1)).mono ?_); rintro e s1 ⟨rfl, z1⟩; have f1 : Ext W5 s1 := ext_new z1; obtain ⟨r0, r1, r2, _, _, _⟩ := HG.out _ f1; obtain ⟨b0, b1, b2, _, _, _⟩ := HC.out _ f1)
    | (go_at_call 13; (with_reducible refine (ftext_f (n := 5) (d := 1) ((HFQ.out _ (by first | ((repeat first | assumption | exact Below.refl _ _ | refine ext_alloc ?_ _ | refine ext_drew ?_ | refine ext_set ?_ (by first | omega | (simp; done) | (simp; omega)) _); done) | fail)).any fb5 (by omega)) (by omega) (by decide) (by decide) (by decide) (by omega) (by omega) (by omega) (HT.out _ (by first | ((repeat first | assumption | exact Below.refl _ _ | refine ext_alloc ?_ _ | refine ext_drew ?_ | refine ext_set ?_ (by first | omega | (simp; done) | (simp; omega)) _); done) | fail))).mono ?_); rintro e s2 ⟨rfl, z2⟩; have f2 : Ext W5 s2 := Ext.trans (by first | ((repeat first | assumption | exact Below.refl _ _ | refine ext_alloc ?_ _ | refine ext_drew ?_ | refine ext_set ?_ (by first | omega | (simp; done) | (simp; omega)) _); done) | fail) z2; obtain ⟨r0, r1, r2, _, _, _⟩ := HG.out _ f2; obtain ⟨b0, b1, b2, _, _, _⟩ := HC.out _ f2)
    | (go_at_call 13; (with_reducible refine (ftext_f (n := 375) (d := 77) ((HFC.out _ (by first | ((repeat first | assumption | exact Below.refl _ _ | refine ext_alloc ?_ _ | refine ext_drew ?_ | refine ext_set ?_ (by first | omega | (simp; done) | (simp; omega)) _); done) | fail)).any fb375 (by omega)) (by omega) (by decide) (by decide) (by decide) (by omega) (by omega) (by omega) (HT.out _ (by first | ((repeat first | assumption | exact Below.refl _ _ | refine ext_alloc ?_ _ | refine ext_drew ?_ | refine ext_set ?_ (by first | omega | (simp; done) | (simp; omega)) _); done) | fail))).mono ?_); rintro e s3 ⟨rfl, z3⟩; have f3 : Ext W5 s3 := Ext.trans (by first | ((repeat first | assumption | exact Below.refl _ _ | refine ext_alloc ?_ _ | refine ext_drew ?_ | refine ext_set ?_ (by first | omega | (simp; done) | (simp; omega)) _); done) | fail) z3))
  go_ret
  exact ⟨rfl, hE0.trans f3⟩

end Go.Proofs.YtfnngchanhnaiaaDoor
namespace Go.Proofs.YtfnngchanhnaiaaDoor
open Go.RowKit Num

/-- What a function that answers (Fraction, Errno) gives, whichever way. -/
def GivesP (w : World) (b : Bool) (n d : Nat) (er : Int) (e : Ending) (w' : World) : Prop :=
  ∃ A k c A' k' c', e = .returned (.tuple #[.agg #[.bool b, .slice A k c, .slice A' k' c'], .int .i64 er]) ∧ CanV w' (.slice A k c) n ∧ CanV w' (.slice A' k' c') d ∧ Ext w w' ∧ New w.heap.size (.slice A k c) ∧ New w.heap.size (.slice A' k' c')
theorem GivesFE.p {w w' : World} {q : Rat} {e : Ending} (h : GivesFE w q e w') : GivesP w (decide (q < 0)) q.num.natAbs q.den 0 e w' := by
  obtain ⟨b, A, k, c, A', k', c', rfl, ⟨rfl, h1, h2⟩, hE, hn, hn'⟩ := h
  exact ⟨A, k, c, A', k', c', rfl, h1, h2, hE, hn, hn'⟩
theorem GivesFN.p {w w' : World} {er : Int} {e : Ending} (h : GivesFN w er e w') : GivesP w false 0 0 er e w' := by
  obtain ⟨rfl, hE⟩ := h
  exact ⟨none, 0, 0, none, 0, 0, rfl, CanV.nil_ _, CanV.nil_ _, hE, New.nil_ _, New.nil_ _⟩

end Go.Proofs.YtfnngchanhnaiaaDoor
