/- The walk of EstimatorCounts. -/
import Derived.Test.YtkjcbfaimonaoaaDoorEstL
set_option linter.unusedVariables false
set_option linter.unusedSimpArgs false
set_option maxRecDepth 100000
namespace Go.Proofs.YtkjcbfaimonaoaaDoor
open Go.RowKit Num

set_option maxHeartbeats 4000000 in
theorem law_EstimatorCounts {v : Value} {zs : List Int} {w : World} (hv : KInts .i64 w v zs) (ht : Tab10 w) :
    Calls Tryd.prog 3 #[v] w (fun e w' => e = .returned (.bool true) ∧ Ext w w') := by
  have hI := hv.ints
  obtain ⟨A, c, rfl, _, _, _⟩ := id hI
  by_cases hl : zs.length ≤ 80
  · obtain ⟨fl, fe, hF⟩ := freq_any zs
    obtain ⟨ib, i1, i2, ie, hX⟩ := index_any zs
    have HF := Lib.hid hF
    have HX := Lib.hid hX
    have HI := Lib.hid (fun (w' : World) (h : Ext w w') => hI.below h)
    clear hF hX hI hv
    go_enter Tryd.func3, Tryd.ntmps3
    go_wp2_with (first
      | (go_at_call 12; (with_reducible refine (eawake ht).mono ?_); rintro e w1 ⟨rfl, x1⟩)
      | (go_at_call 13; (with_reducible refine (few_t hl).mono ?_); rintro e w1' ⟨rfl, rfl⟩))
    refine (HF.out _ _ (HI.out _ x1)).1.mono ?_
    rintro e w2 ⟨A2, c2, rfl, h2, x2, n2⟩
    have y2 := x1.trans x2
    go_wp2_with fail
    refine (HF.out _ _ (HI.out _ y2)).2.mono ?_
    rintro e w3 ⟨A3, c3, rfl, h3, x3, n3⟩
    have y3 := y2.trans x3
    have h2 := h2.below x3
    go_wp2_with fail
    refine (HX.out _ _ (HI.out _ y3)).1.mono ?_
    rintro e w4 ⟨A4, k4, c4, A4', k4', c4', rfl, p4, q4, x4, n4, n4'⟩
    have y4 := y3.trans x4
    have h2 := h2.below x4
    have h3 := h3.below x4
    clear x1 x2 x3 x4 y2 y3 n2 n3 n4 n4'
    go_upto_region 6 with (fail)
    have hG4 := FBox.new w4 (.bool ib) (.slice A4 k4 c4) (.slice A4' k4' c4') 32
    have Y4 : Ext w (w4.alloc (.cells #[.bool ib, .slice A4 k4 c4, .slice A4' k4' c4'] 32)) := ext_alloc y4 _
    have h2 := h2.below (ext_alloc (Below.refl _ _) (.cells #[.bool ib, .slice A4 k4 c4, .slice A4' k4' c4'] 32))
    have h3 := h3.below (ext_alloc (Below.refl _ _) (.cells #[.bool ib, .slice A4 k4 c4, .slice A4' k4' c4'] 32))
    have p4 := p4.below (ext_alloc (Below.refl _ _) (.cells #[.bool ib, .slice A4 k4 c4, .slice A4' k4' c4'] 32))
    have q4 := q4.below (ext_alloc (Below.refl _ _) (.cells #[.bool ib, .slice A4 k4 c4, .slice A4' k4' c4'] 32))
    have hsz4 : w4.heap.size < (w4.alloc (.cells #[.bool ib, .slice A4 k4 c4, .slice A4' k4' c4'] 32)).heap.size := by simp
    generalize w4.alloc (.cells #[.bool ib, .slice A4 k4 c4, .slice A4' k4' c4'] 32) = W4 at *
    generalize w4.heap.size = B4 at *
    go_wp2_with fail
    refine (HX.out _ _ (HI.out _ Y4)).2.mono ?_
    rintro e w5 ⟨A5, k5, c5, A5', k5', c5', rfl, p5, q5, x5, n5, n5'⟩
    have y5 := Y4.trans x5
    have hG4 := hG4.below x5
    have h2 := h2.below x5
    have h3 := h3.below x5
    have p4 := p4.below x5
    have q4 := q4.below x5
    clear x5 n5 n5' Y4
    go_upto_region 7 with (fail)
    have hG4 := hG4.below (ext_alloc (Below.refl _ _) (.cells #[.bool ib, .slice A5 k5 c5, .slice A5' k5' c5'] 32))
    have hG5 := FBox.new w5 (.bool ib) (.slice A5 k5 c5) (.slice A5' k5' c5') 32
    have Y5 : Ext w (w5.alloc (.cells #[.bool ib, .slice A5 k5 c5, .slice A5' k5' c5'] 32)) := ext_alloc y5 _
    have h2 := h2.below (ext_alloc (Below.refl _ _) (.cells #[.bool ib, .slice A5 k5 c5, .slice A5' k5' c5'] 32))
    have h3 := h3.below (ext_alloc (Below.refl _ _) (.cells #[.bool ib, .slice A5 k5 c5, .slice A5' k5' c5'] 32))
    have p4 := p4.below (ext_alloc (Below.refl _ _) (.cells #[.bool ib, .slice A5 k5 c5, .slice A5' k5' c5'] 32))
    have q4 := q4.below (ext_alloc (Below.refl _ _) (.cells #[.bool ib, .slice A5 k5 c5, .slice A5' k5' c5'] 32))
    have p5 := p5.below (ext_alloc (Below.refl _ _) (.cells #[.bool ib, .slice A5 k5 c5, .slice A5' k5' c5'] 32))
    have q5 := q5.below (ext_alloc (Below.refl _ _) (.cells #[.bool ib, .slice A5 k5 c5, .slice A5' k5' c5'] 32))
    have hsz5 : w5.heap.size < (w5.alloc (.cells #[.bool ib, .slice A5 k5 c5, .slice A5' k5' c5'] 32)).heap.size := by simp
    generalize w5.alloc (.cells #[.bool ib, .slice A5 k5 c5, .slice A5' k5' c5'] 32) = W5 at *
    generalize w5.heap.size = B5 at *
    have H4 := Lib.hid (fun (w' : World) (h : Ext W5 w') => hG4.below h)
    have H5 := Lib.hid (fun (w' : World) (h : Ext W5 w') => hG5.below h)
    have HP := Lib.hid (fun (w' : World) (h : Ext W5 w') => (⟨p4.below h, q4.below h, p5.below h, q5.below h⟩ : CanV w' (.slice A4 k4 c4) i1 ∧ CanV w' (.slice A4' k4' c4') i2 ∧ CanV w' (.slice A5 k5 c5) i1 ∧ CanV w' (.slice A5' k5' c5') i2))
    have HL := Lib.hid (⟨h2, h3⟩ : IntsV W5 (.slice A2 fl.length c2) fl ∧ IntsV W5 (.slice A3 fl.length c3) fl)
    obtain ⟨r0, r1, r2, _, _, _⟩ := hG4
    obtain ⟨b0, b1, b2, _, _, _⟩ := hG5
    have f0 : Ext W5 W5 := Below.refl _ _
    clear h2 h3 p4 q4 p5 q5
    go_wp2_with (first
      | (go_at_call 18; (with_reducible refine (bints_same HL.out.1 HL.out.2).mono ?_); rintro e s1 ⟨rfl, z1⟩; have f1 : Ext W5 s1 := Ext.trans (by repeat first | assumption | exact Below.refl _ _ | refine ext_alloc ?_ _ | refine ext_drew ?_ | refine ext_set ?_ (by first | omega | (simp; done) | (simp; omega)) _) z1; obtain ⟨r0, r1, r2, _, _, _⟩ := H4.out _ f1; obtain ⟨b0, b1, b2, _, _, _⟩ := H5.out _ f1)
      | (go_at_call 19; (with_reducible refine (bfrac_eq (HP.out _ (by repeat first | assumption | exact Below.refl _ _ | refine ext_alloc ?_ _ | refine ext_drew ?_ | refine ext_set ?_ (by first | omega | (simp; done) | (simp; omega)) _)).1 (HP.out _ (by repeat first | assumption | exact Below.refl _ _ | refine ext_alloc ?_ _ | refine ext_drew ?_ | refine ext_set ?_ (by first | omega | (simp; done) | (simp; omega)) _)).2.1 (HP.out _ (by repeat first | assumption | exact Below.refl _ _ | refine ext_alloc ?_ _ | refine ext_drew ?_ | refine ext_set ?_ (by first | omega | (simp; done) | (simp; omega)) _)).2.2.1 (HP.out _ (by repeat first | assumption | exact Below.refl _ _ | refine ext_alloc ?_ _ | refine ext_drew ?_ | refine ext_set ?_ (by first | omega | (simp; done) | (simp; omega)) _)).2.2.2).mono ?_); rintro e s2 ⟨rfl, z2⟩; have f2 : Ext W5 s2 := Ext.trans (by repeat first | assumption | exact Below.refl _ _ | refine ext_alloc ?_ _ | refine ext_drew ?_ | refine ext_set ?_ (by first | omega | (simp; done) | (simp; omega)) _) z2))
    go_ret
    exact ⟨rfl, Y5.trans f2⟩
  · go_enter Tryd.func3, Tryd.ntmps3
    go_wp2_with (first
      | (go_at_call 12; (with_reducible refine (eawake ht).mono ?_); rintro e w1 ⟨rfl, x1⟩; have y1 : Ext w w1 := (by first | exact x1 | exact Ext.trans y1 x1); have ht := ht.ext x1)
      | (go_at_call 13; (with_reducible refine (few_f hl).mono ?_); rintro e w1' ⟨rfl, rfl⟩))
    go_ret
    exact ⟨rfl, y1⟩

end Go.Proofs.YtkjcbfaimonaoaaDoor
