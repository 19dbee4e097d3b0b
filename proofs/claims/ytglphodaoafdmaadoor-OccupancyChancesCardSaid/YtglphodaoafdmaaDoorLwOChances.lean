/- The walk of OccupancyChances. -/
import Derived.Test.YtglphodaoafdmaaDoorOcW
import Derived.Test.YtglphodaoafdmaaDoorOcRD
import Derived.Test.YtglphodaoafdmaaDoorFrlB
set_option linter.unusedVariables false
set_option linter.unusedSimpArgs false
set_option maxRecDepth 100000
namespace Go.Proofs.YtglphodaoafdmaaDoor
open Go.RowKit Num

set_option maxHeartbeats 8000000 in
theorem ochances_walk {n D d : Int} {b : Bool} {m k : Nat} {er : Int} {qs : List Rat} {er' : Int} {w : World}
    (C1 : ∀ w, Calls Tryd.prog 30 #[.int .i64 n, .int .i64 D, .int .i64 d] w (GivesP w b m k er))
    (C2 : ∀ w, Calls Tryd.prog 31 #[.int .i64 n, .int .i64 D, .int .i64 d] w (GivesP w b m k er))
    (C3 : ∀ w, Calls Tryd.prog 13 #[.int .i64 n, .int .i64 D] w (GivesFLP w qs er'))
    (C4 : ∀ w, Calls Tryd.prog 32 #[.int .i64 n, .int .i64 D] w (GivesFLP w qs er')) (ht : Tab10 w) :
    Calls Tryd.prog 4 #[.int .i64 n, .int .i64 D, .int .i64 d] w (fun e w' => e = .returned (.bool true) ∧ Ext w w') := by
  have HT := Lib.hid (fun (w' : World) (h : Ext w w') => ht.ext h)
  have H1 := Lib.hid C1
  have H2 := Lib.hid C2
  have H3 := Lib.hid C3
  have H4 := Lib.hid C4
  clear C1 C2 C3 C4
  go_enter Tryd.func4, Tryd.ntmps4
  go_wp2_with fail
  refine (oawake ht).mono ?_
  rintro e W0 ⟨rfl, V0⟩
  clear ht
  go_wp2_with fail
  refine (H1.out _).mono ?_
  rintro e w1 ⟨A1, k1, c1, A1', k1', c1', rfl, h1, g1, y1, n1, n1'⟩
  clear n1 n1'
  go_upto_region 4 with (fail)
  have hG1 := FBox.new w1 (.bool b) (.slice A1 k1 c1) (.slice A1' k1' c1') 31
  have Y1 : Ext W0 (w1.alloc (.cells #[.bool b, .slice A1 k1 c1, .slice A1' k1' c1'] 31)) := ext_alloc y1 _
  have h1 := h1.below (ext_alloc (Below.refl _ _) (.cells #[.bool b, .slice A1 k1 c1, .slice A1' k1' c1'] 31))
  have g1 := g1.below (ext_alloc (Below.refl _ _) (.cells #[.bool b, .slice A1 k1 c1, .slice A1' k1' c1'] 31))
  have hsz1 : w1.heap.size < (w1.alloc (.cells #[.bool b, .slice A1 k1 c1, .slice A1' k1' c1'] 31)).heap.size := by simp
  generalize w1.alloc (.cells #[.bool b, .slice A1 k1 c1, .slice A1' k1' c1'] 31) = W1 at *
  generalize w1.heap.size = B1 at *
  have HG1 := Lib.hid (fun (w' : World) (h : Ext W1 w') => hG1.below h)
  have HC1 := Lib.hid (fun (w' : World) (h : Ext W1 w') => And.intro (h1.below h) (g1.below h))
  clear hG1 h1 g1 y1 hsz1
  go_wp2_with fail
  refine (H2.out _).mono ?_
  rintro e w2 ⟨A2, k2, c2, A2', k2', c2', rfl, h2, g2, y2, n2, n2'⟩
  clear n2 n2'
  go_upto_region 5 with (fail)
  have hG2 := FBox.new w2 (.bool b) (.slice A2 k2 c2) (.slice A2' k2' c2') 31
  have Y2 : Ext W1 (w2.alloc (.cells #[.bool b, .slice A2 k2 c2, .slice A2' k2' c2'] 31)) := ext_alloc y2 _
  have h2 := h2.below (ext_alloc (Below.refl _ _) (.cells #[.bool b, .slice A2 k2 c2, .slice A2' k2' c2'] 31))
  have g2 := g2.below (ext_alloc (Below.refl _ _) (.cells #[.bool b, .slice A2 k2 c2, .slice A2' k2' c2'] 31))
  have hsz2 : w2.heap.size < (w2.alloc (.cells #[.bool b, .slice A2 k2 c2, .slice A2' k2' c2'] 31)).heap.size := by simp
  generalize w2.alloc (.cells #[.bool b, .slice A2 k2 c2, .slice A2' k2' c2'] 31) = W2 at *
  generalize w2.heap.size = B2 at *
  have HG2 := Lib.hid (fun (w' : World) (h : Ext W2 w') => hG2.below h)
  have HC2 := Lib.hid (fun (w' : World) (h : Ext W2 w') => And.intro (h2.below h) (g2.below h))
  clear hG2 h2 g2 y2 hsz2
  go_wp2_with fail
  refine (H3.out _).mono ?_
  rintro e w3 ⟨A3, c3, rfl, h3, y3, n3⟩
  have HV3 := Lib.hid (fun (w' : World) (h : Ext w3 w') => h3.ext h)
  clear h3 n3
  go_wp2_with fail
  refine (H4.out _).mono ?_
  rintro e w4 ⟨A4, c4, rfl, h4, y4, n4⟩
  have HV4 := Lib.hid (fun (w' : World) (h : Ext w4 w') => h4.ext h)
  clear h4 n4
  have E2 : Ext W2 w4 := y3.trans y4
  have E1 : Ext W1 w4 := Y2.trans E2
  have HC := Lib.hid (fun (w' : World) (h : Ext w4 w') => (⟨HG1.out _ (E1.trans h), HG2.out _ (E2.trans h)⟩ : _ ∧ _))
  obtain ⟨⟨p0, p1, p2, _, _, _⟩, ⟨q0, q1, q2, _, _, _⟩⟩ := HC.out _ (Below.refl _ _)
  have f0 : Ext w4 w4 := Below.refl _ _
  go_wp2_with (first
    | (go_at_call 33; (with_reducible refine (bfrac_eq (HC1.out _ (E1.trans f0)).1 (HC1.out _ (E1.trans f0)).2 (HC2.out _ (E2.trans f0)).1 (HC2.out _ (E2.trans f0)).2).mono ?_); rintro _ s1' ⟨rfl, z5⟩; have f0 := Ext.trans f0 z5)
    | (go_at_call 34; (with_reducible refine (bfracs_same (HV3.out _ (y4.trans f0)) (HV4.out _ f0)).mono ?_); rintro _ s1' ⟨rfl, z5⟩; have f0 := Ext.trans f0 z5))
  go_ret
  exact ⟨rfl, V0.trans (Y1.trans (E1.trans f0))⟩

theorem law_OChances {n D d : Int} {w : World} (ht : Tab10 w) :
    Calls Tryd.prog 4 #[.int .i64 n, .int .i64 D, .int .i64 d] w (fun e w' => e = .returned (.bool true) ∧ Ext w w') := by
  by_cases h : OccIn n D
  · obtain ⟨⟨h1, h2⟩, h3, h4⟩ := h
    obtain ⟨N, rfl⟩ : ∃ N : Nat, n = N := ⟨n.toNat, by omega⟩
    obtain ⟨E, rfl⟩ : ∃ E : Nat, D = E := ⟨D.toNat, by omega⟩
    exact ochances_walk (fun w => (ochance_ok (n := N) (D := E) (d := d) (by omega) (by omega) (by omega)).mono fun _ _ h => h.p)
      (fun w => (rchance_ok (n := N) (D := E) (d := d) (by omega) (by omega) (by omega)).mono fun _ _ h => h.p)
      (fun w => (odist_ok (n := N) (D := E) (by omega) (by omega) (by omega)).mono fun _ _ h => h.p)
      (fun w => (rdist_ok (n := N) (D := E) (by omega) (by omega) (by omega)).mono fun _ _ h => h.p) ht
  · exact ochances_walk (fun w => (ochance_no h).mono fun _ _ h => h.p) (fun w => (rchance_no h).mono fun _ _ h => h.p)
      (fun w => odist_no h) (fun w => rdist_no h) ht

end Go.Proofs.YtglphodaoafdmaaDoor
