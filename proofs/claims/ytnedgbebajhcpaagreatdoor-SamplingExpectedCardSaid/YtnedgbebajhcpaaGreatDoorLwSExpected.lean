/- The walk of SamplingExpected. -/
import Derived.Test.YtnedgbebajhcpaaGreatDoorSamY
import Derived.Test.YtnedgbebajhcpaaGreatDoorWf
set_option linter.unusedVariables false
set_option linter.unusedSimpArgs false
set_option maxRecDepth 100000
namespace Go.Proofs.YtnedgbebajhcpaaGreatDoor
open Go.RowKit Num

theorem exp_both {n D m : Int} : ∃ b x k er, (∀ w, Tab10 w → Calls Tryz.prog 7 #[.int .i64 n, .int .i64 D, .int .i64 m] w (GivesP w b x k er)) ∧ (∀ w, Calls Tryz.prog 8 #[.int .i64 n, .int .i64 D, .int .i64 m] w (GivesP w b x k er)) := by
  by_cases h : ExpIn n D m
  · obtain ⟨⟨h1, h2⟩, ⟨h3, h4⟩, h5, h6⟩ := h
    obtain ⟨N, rfl⟩ : ∃ N : Nat, n = N := ⟨n.toNat, by omega⟩
    obtain ⟨E, rfl⟩ : ∃ E : Nat, D = E := ⟨D.toNat, by omega⟩
    obtain ⟨M, rfl⟩ : ∃ M : Nat, m = M := ⟨m.toNat, by omega⟩
    exact ⟨_, _, _, _, fun w ht => (sexp_ok (n := N) (D := E) (m := M) (by omega) (by omega) (by omega) ht).mono fun _ _ h => h.p, fun w => (rexp_ok (n := N) (D := E) (m := M) (by omega) (by omega) (by omega)).mono fun _ _ h => h.p⟩
  · exact ⟨_, _, _, _, fun w ht => (sexp_no h).mono fun _ _ h => h.p, fun w => (rexp_no h).mono fun _ _ h => h.p⟩

set_option maxHeartbeats 8000000 in
theorem law_SExpected {n D m : Int} {w : World} (ht : Tab10 w) :
    Calls Tryz.prog 3 #[.int .i64 n, .int .i64 D, .int .i64 m] w (fun e w' => e = .returned (.bool true) ∧ Ext w w') := by
  have HT := Lib.hid (fun (w' : World) (h : Ext w w') => ht.ext h)
  obtain ⟨b1, m1, k1, e1, C1, C2⟩ := exp_both (n := n) (D := D) (m := m)
  have H1 := Lib.hid C1
  have H2 := Lib.hid C2
  clear C1 C2
  go_enter Tryz.func3, Tryz.ntmps3
  go_wp2_with fail
  refine (sawake ht).mono ?_
  rintro e W0 ⟨rfl, V0⟩
  clear ht
  go_wp2_with fail
  refine (H1.out _ (HT.out _ V0)).mono ?_
  rintro e w1 ⟨A1, k1, c1, A1', k1', c1', rfl, h1, g1, y1, n1, n1'⟩
  clear n1 n1'
  go_upto_region 4 with (fail)
  have hG1 := FBox.new w1 (.bool b1) (.slice A1 k1 c1) (.slice A1' k1' c1') 27
  have Y1 : Ext W0 (w1.alloc (.cells #[.bool b1, .slice A1 k1 c1, .slice A1' k1' c1'] 27)) := ext_alloc y1 _
  have h1 := h1.below (ext_alloc (Below.refl _ _) (.cells #[.bool b1, .slice A1 k1 c1, .slice A1' k1' c1'] 27))
  have g1 := g1.below (ext_alloc (Below.refl _ _) (.cells #[.bool b1, .slice A1 k1 c1, .slice A1' k1' c1'] 27))
  have hsz1 : w1.heap.size < (w1.alloc (.cells #[.bool b1, .slice A1 k1 c1, .slice A1' k1' c1'] 27)).heap.size := by simp
  generalize w1.alloc (.cells #[.bool b1, .slice A1 k1 c1, .slice A1' k1' c1'] 27) = W1 at *
  generalize w1.heap.size = B1 at *
  have HG1 := Lib.hid (fun (w' : World) (h : Ext W1 w') => hG1.below h)
  have HC1 := Lib.hid (fun (w' : World) (h : Ext W1 w') => And.intro (h1.below h) (g1.below h))
  clear hG1 h1 g1 y1 hsz1
  go_wp2_with fail
  refine (H2.out _).mono ?_
  rintro e w2 ⟨A2, k2, c2, A2', k2', c2', rfl, h2, g2, y2, n2, n2'⟩
  clear n2 n2'
  go_upto_region 5 with (fail)
  have hG2 := FBox.new w2 (.bool b1) (.slice A2 k2 c2) (.slice A2' k2' c2') 27
  have Y2 : Ext W1 (w2.alloc (.cells #[.bool b1, .slice A2 k2 c2, .slice A2' k2' c2'] 27)) := ext_alloc y2 _
  have h2 := h2.below (ext_alloc (Below.refl _ _) (.cells #[.bool b1, .slice A2 k2 c2, .slice A2' k2' c2'] 27))
  have g2 := g2.below (ext_alloc (Below.refl _ _) (.cells #[.bool b1, .slice A2 k2 c2, .slice A2' k2' c2'] 27))
  have hsz2 : w2.heap.size < (w2.alloc (.cells #[.bool b1, .slice A2 k2 c2, .slice A2' k2' c2'] 27)).heap.size := by simp
  generalize w2.alloc (.cells #[.bool b1, .slice A2 k2 c2, .slice A2' k2' c2'] 27) = W2 at *
  generalize w2.heap.size = B2 at *
  have HG2 := Lib.hid (fun (w' : World) (h : Ext W2 w') => hG2.below h)
  have HC2 := Lib.hid (fun (w' : World) (h : Ext W2 w') => And.intro (h2.below h) (g2.below h))
  clear hG2 h2 g2 y2 hsz2
  have E1 : Ext W1 W2 := Y2
  have HC := Lib.hid (fun (w' : World) (h : Ext W2 w') => (⟨HG1.out _ (E1.trans h), HG2.out _ h⟩ : _ ∧ _))
  obtain ⟨⟨p0, p1, p2, _, _, _⟩, q0, q1, q2, _, _, _⟩ := HC.out _ (Below.refl _ _)
  have f0 : Ext W2 W2 := Below.refl _ _
  go_wp2_with (go_at_call 9; (with_reducible refine (bfrac_eq (HC1.out _ (E1.trans f0)).1 (HC1.out _ (E1.trans f0)).2 (HC2.out _ f0).1 (HC2.out _ f0).2).mono ?_); rintro _ s1' ⟨rfl, z5⟩; have f0 := Ext.trans f0 z5)
  go_ret
  exact ⟨rfl, V0.trans (Y1.trans (E1.trans f0))⟩

end Go.Proofs.YtnedgbebajhcpaaGreatDoor
