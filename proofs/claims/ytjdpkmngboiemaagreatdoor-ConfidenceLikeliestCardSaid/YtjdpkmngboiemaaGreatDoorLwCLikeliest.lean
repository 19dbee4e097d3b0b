/- The walk of ConfidenceLikeliest. -/
import Derived.Test.YtjdpkmngboiemaaGreatDoorConL
import Derived.Test.YtjdpkmngboiemaaGreatDoorConC
import Derived.Test.YtjdpkmngboiemaaGreatDoorConR
import Derived.Test.YtjdpkmngboiemaaGreatDoorWf
set_option linter.unusedVariables false
set_option linter.unusedSimpArgs false
set_option maxRecDepth 100000
namespace Go.Proofs.YtjdpkmngboiemaaGreatDoor
open Go.RowKit Num

theorem ratio_both (n d D E : Int) : ∃ (b : Bool) (m k : Nat) (er : Int), (∀ w, Calls Tryz.prog 18 #[.int .i64 n, .int .i64 d, .int .i64 D, .int .i64 E] w (GivesP w b m k er)) ∧
    (∀ w, Calls Tryz.prog 19 #[.int .i64 n, .int .i64 d, .int .i64 D, .int .i64 E] w (GivesP w b m k er)) := by
  by_cases hu : KIn n d ∧ DiesIn [D, E]
  · obtain ⟨N, B, F, rfl, rfl, rfl, h1, h2, h3⟩ := din_nat (show DIn n d D from ⟨hu.1, hu.2 D (List.mem_cons_self ..)⟩)
    have h4 := hu.2 E (by simp)
    obtain ⟨G, rfl⟩ : ∃ G : Nat, E = G := ⟨E.toNat, by omega⟩
    by_cases hq : pchI N G B = 0
    · exact ⟨_, _, _, _, fun w => kratio_z h1 h2 h3 (by omega) hq, fun w => rratio_z h1 h2 h3 (by omega) hq⟩
    · exact ⟨_, _, _, _, fun w => kratio_ok h1 h2 h3 (by omega) hq, fun w => rratio_ok h1 h2 h3 (by omega) hq⟩
  · exact ⟨_, _, _, _, fun w => kratio_no hu, fun w => rratio_no hu⟩

set_option maxHeartbeats 8000000 in
theorem law_CLikeliest {v0 : Value} {z0 : Int × Int × Int} {D : Int} {w : World} (h0 : v0 = .agg #[.int .i64 z0.1, .int .i64 z0.2.1, .int .i64 z0.2.2] ∧ (Lit.int .i64 z0.1).wf = true ∧ (Lit.int .i64 z0.2.1).wf = true ∧ (Lit.int .i64 z0.2.2).wf = true) (ht : Tab10 w) :
    Calls Tryz.prog 5 #[v0, .int .i64 D] w (fun e w' => e = .returned (.bool true) ∧ Ext w w') := by
  obtain ⟨a, b, c⟩ := z0
  obtain ⟨rfl, wa, wb, wc⟩ := h0
  clear wa wb wc
  dsimp only
  have HT := Lib.hid (fun (w' : World) (h : Ext w w') => ht.ext h)
  clear ht
  have HL1 := Lib.hid (fun w => klike_any (n := a) (d := b) (m := c) (w := w))
  have HL2 := Lib.hid (fun w => rlike_any (n := a) (d := b) (m := c) (w := w))
  generalize likeV a b c = lv at HL1 HL2
  generalize likeE a b c = le at HL1 HL2
  obtain ⟨rb, rm, rk, er, hr1, hr2⟩ := ratio_both a b D c
  have HR1 := Lib.hid hr1
  have HR2 := Lib.hid hr2
  clear hr1 hr2
  go_enter Tryz.func5, Tryz.ntmps5
  go_upto_region 1 with (fail)
  have hB0 := FBox.new w (.int .i64 a) (.int .i64 b) (.int .i64 c) 23
  have x0 : Ext w (w.alloc (.cells #[.int .i64 a, .int .i64 b, .int .i64 c] 23)) := ext_alloc (Below.refl _ _) _
  have hs0 : w.heap.size + 1 ≤ (w.alloc (.cells #[.int .i64 a, .int .i64 b, .int .i64 c] 23)).heap.size := by simp
  generalize (w.alloc (.cells #[.int .i64 a, .int .i64 b, .int .i64 c] 23)) = W0 at *
  have HB0 := Lib.hid (fun (w' : World) (h : Ext W0 w') => hB0.below h)
  obtain ⟨c00, c01, c02, d00, d01, d02⟩ := hB0
  have HE := Lib.hid x0
  clear x0
  have f0 : Ext W0 W0 := Below.refl _ _
  go_wp2_with fail
  refine (kawake (HT.out _ HE.out)).mono ?_
  rintro e U1 ⟨rfl, y1⟩
  obtain ⟨c00, c01, c02, _, _, _⟩ := HB0.out _ y1
  go_wp2_with fail
  refine (HL1.out _).mono ?_
  rintro e U2 ⟨rfl, y2⟩
  have y2 := Ext.trans y1 y2
  obtain ⟨c00, c01, c02, _, _, _⟩ := HB0.out _ y2
  go_wp2_with fail
  refine (HL2.out _).mono ?_
  rintro e U3 ⟨rfl, y3⟩
  have y3 := Ext.trans y2 y3
  obtain ⟨c00, c01, c02, _, _, _⟩ := HB0.out _ y3
  go_wp2_with fail
  refine (HR1.out _).mono ?_
  rintro e w1 ⟨A1, k1, c1, A1', k1', c1', rfl, h1, g1, y1, n1, n1'⟩
  clear n1 n1'
  go_upto_region 6 with (fail)
  have hG1 := FBox.new w1 (.bool rb) (.slice A1 k1 c1) (.slice A1' k1' c1') 28
  have Y1 : Ext U3 (w1.alloc (.cells #[.bool rb, .slice A1 k1 c1, .slice A1' k1' c1'] 28)) := ext_alloc y1 _
  have h1 := h1.below (ext_alloc (Below.refl _ _) (.cells #[.bool rb, .slice A1 k1 c1, .slice A1' k1' c1'] 28))
  have g1 := g1.below (ext_alloc (Below.refl _ _) (.cells #[.bool rb, .slice A1 k1 c1, .slice A1' k1' c1'] 28))
  have hsz1 : w1.heap.size < (w1.alloc (.cells #[.bool rb, .slice A1 k1 c1, .slice A1' k1' c1'] 28)).heap.size := by simp
  generalize w1.alloc (.cells #[.bool rb, .slice A1 k1 c1, .slice A1' k1' c1'] 28) = W1 at *
  generalize w1.heap.size = B1 at *
  have HG1 := Lib.hid (fun (w' : World) (h : Ext W1 w') => hG1.below h)
  have HC1 := Lib.hid (fun (w' : World) (h : Ext W1 w') => And.intro (h1.below h) (g1.below h))
  clear hG1 h1 g1 y1 hsz1
  obtain ⟨c00, c01, c02, _, _, _⟩ := HB0.out _ (y3.trans Y1)
  go_wp2_with fail
  refine (HR2.out _).mono ?_
  rintro e w2 ⟨A2, k2, c2, A2', k2', c2', rfl, h2, g2, y2, n2, n2'⟩
  clear n2 n2'
  go_upto_region 7 with (fail)
  have hG2 := FBox.new w2 (.bool rb) (.slice A2 k2 c2) (.slice A2' k2' c2') 28
  have Y2 : Ext W1 (w2.alloc (.cells #[.bool rb, .slice A2 k2 c2, .slice A2' k2' c2'] 28)) := ext_alloc y2 _
  have h2 := h2.below (ext_alloc (Below.refl _ _) (.cells #[.bool rb, .slice A2 k2 c2, .slice A2' k2' c2'] 28))
  have g2 := g2.below (ext_alloc (Below.refl _ _) (.cells #[.bool rb, .slice A2 k2 c2, .slice A2' k2' c2'] 28))
  have hsz2 : w2.heap.size < (w2.alloc (.cells #[.bool rb, .slice A2 k2 c2, .slice A2' k2' c2'] 28)).heap.size := by simp
  generalize w2.alloc (.cells #[.bool rb, .slice A2 k2 c2, .slice A2' k2' c2'] 28) = W2 at *
  generalize w2.heap.size = B2 at *
  have HG2 := Lib.hid (fun (w' : World) (h : Ext W2 w') => hG2.below h)
  have HC2 := Lib.hid (fun (w' : World) (h : Ext W2 w') => And.intro (h2.below h) (g2.below h))
  clear hG2 h2 g2 y2 hsz2
  have HC := Lib.hid (fun (w' : World) (h : Ext W2 w') => (⟨HG1.out _ (Y2.trans h), HG2.out _ h⟩ : _ ∧ _))
  obtain ⟨⟨p0, p1, p2, _, _, _⟩, q0, q1, q2, _, _, _⟩ := HC.out _ (Below.refl _ _)
  have f0 : Ext W2 W2 := Below.refl _ _
  go_wp2_with (go_at_call 20; (with_reducible refine (bfrac_eq (HC1.out _ Y2).1 (HC1.out _ Y2).2 (HC2.out _ f0).1 (HC2.out _ f0).2).mono ?_); rintro _ s1' ⟨rfl, z5⟩)
  go_ret
  exact ⟨rfl, HE.out.trans (y3.trans (Y1.trans (Y2.trans z5)))⟩

end Go.Proofs.YtjdpkmngboiemaaGreatDoor
