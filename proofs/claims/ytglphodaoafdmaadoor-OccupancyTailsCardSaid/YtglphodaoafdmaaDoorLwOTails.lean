/- The walk of OccupancyTails. -/
import Derived.Test.YtglphodaoafdmaaDoorOcW
import Derived.Test.YtglphodaoafdmaaDoorOcRT
set_option linter.unusedVariables false
set_option linter.unusedSimpArgs false
set_option maxRecDepth 100000
namespace Go.Proofs.YtglphodaoafdmaaDoor
open Go.RowKit Num

theorem sumTo_cut (f : Nat → Nat) (m : Nat) : ∀ N, m ≤ N → sumTo (fun i => if i < m then f i else 0) N = sumTo f m
  | 0, h => by rw [show m = 0 from by omega]; rfl
  | N + 1, h => by
    rw [sumTo_succ]
    by_cases e : m = N + 1
    · subst e
      rw [if_pos (by omega), sumTo_succ]
      congr 1
      exact sumTo_congr fun k hk => if_pos (by omega)
    · rw [if_neg (by omega), Nat.add_zero, sumTo_cut f m N (by omega)]
theorem tail_most (n D : Nat) (d : Int) : sumTo (tailF n D 0 d) (n + 1) = sumTo (occ n D) (mostN n d) := by
  rw [← sumTo_cut (occ n D) (mostN n d) (n + 1) (by unfold mostN; omega)]
  refine sumTo_congr fun k hk => ?_
  unfold tailF mostN
  by_cases h : (k : Int) ≤ d
  · rw [if_pos ⟨by omega, h⟩, if_pos (by omega)]
  · rw [if_neg (by omega), if_neg (by omega)]
theorem tail_least (n D : Nat) (d : Int) : sumTo (tailF n D d n) (n + 1) = D ^ n - sumTo (occ n D) (min d.toNat (n + 1)) := by
  have h1 : sumTo (tailF n D d n) (n + 1) + sumTo (occ n D) (min d.toNat (n + 1)) = D ^ n := by
    rw [← sumTo_cut (occ n D) (min d.toNat (n + 1)) (n + 1) (Nat.min_le_right _ _), ← sumTo_add, ← occ_sum]
    refine sumTo_congr fun k hk => ?_
    unfold tailF
    by_cases h : d ≤ (k : Int)
    · rw [if_pos ⟨h, by omega⟩, if_neg (by omega)]; omega
    · rw [if_neg (by omega), if_pos (by omega)]; omega
  omega

set_option maxHeartbeats 8000000 in
theorem otails_walk {n D d : Int} {b b' : Bool} {m k m' k' : Nat} {er er' : Int} {w : World}
    (C1 : ∀ w, Tab10 w → Calls Tryd.prog 14 #[.int .i64 n, .int .i64 D, .int .i64 d] w (GivesP w b m k er))
    (C2 : ∀ w, Calls Tryd.prog 40 #[.int .i64 n, .int .i64 D, .int .i64 d] w (GivesP w b m k er))
    (C3 : ∀ w, Tab10 w → Calls Tryd.prog 15 #[.int .i64 n, .int .i64 D, .int .i64 d] w (GivesP w b' m' k' er'))
    (C4 : ∀ w, Calls Tryd.prog 41 #[.int .i64 n, .int .i64 D, .int .i64 d] w (GivesP w b' m' k' er')) (ht : Tab10 w) :
    Calls Tryd.prog 8 #[.int .i64 n, .int .i64 D, .int .i64 d] w (fun e w' => e = .returned (.bool true) ∧ Ext w w') := by
  have HT := Lib.hid (fun (w' : World) (h : Ext w w') => ht.ext h)
  have H1 := Lib.hid C1
  have H2 := Lib.hid C2
  have H3 := Lib.hid C3
  have H4 := Lib.hid C4
  clear C1 C2 C3 C4
  go_enter Tryd.func8, Tryd.ntmps8
  go_wp2_with fail
  refine (oawake ht).mono ?_
  rintro e W0 ⟨rfl, V0⟩
  clear ht
  go_wp2_with fail
  refine (H1.out _ (HT.out _ V0)).mono ?_
  rintro e w1 ⟨A1, k1, c1, A1', k1', c1', rfl, h1, g1, y1, n1, n1'⟩
  clear n1 n1'
  go_upto_region 4 with (fail)
  have hG1 := FBox.new w1 (.bool b) (.slice A1 k1 c1) (.slice A1' k1' c1') 31
  have Y1 : Ext W0 (w1.alloc (.cells #[.bool b, .slice A1 k1 c1, .slice A1' k1' c1'] 31)) := ext_alloc y1 _
  have h1 := h1.below (ext_alloc (Below.refl _ _) (.cells #[.bool b, .slice A1 k1 c1, .slice A1' k1' c1'] 31))
  have g1 := g1.below (ext_alloc (Below.refl _ _) (.cells #[.bool b, .slice A1 k1 c1, .slice A1' k1' c1'] 31))
  have hsz1 : w1.heap.size < (w1.alloc (.cells #[.bool b, .slice A1 k1 c1, .slice A1' k1' c1'] 31)).heap.size := by simp
  generalize w1.alloc (.cells #[.bool b, .slice A1 k1 c1, .slice A1' k1' c1'] 31) = W1 at *
  generalize w1.heap.size = B1 at *
  have HG1 := Lib.hid (fun (w' : World) (h : Ext W1 w') => hG1.below h)
  have HC1 := Lib.hid (fun (w' : World) (h : Ext W1 w') => And.intro (h1.below h) (g1.below h))
  clear hG1 h1 g1 y1 hsz1
  go_wp2_with fail
  refine (H2.out _).mono ?_
  rintro e w2 ⟨A2, k2, c2, A2', k2', c2', rfl, h2, g2, y2, n2, n2'⟩
  clear n2 n2'
  go_upto_region 5 with (fail)
  have hG2 := FBox.new w2 (.bool b) (.slice A2 k2 c2) (.slice A2' k2' c2') 31
  have Y2 : Ext W1 (w2.alloc (.cells #[.bool b, .slice A2 k2 c2, .slice A2' k2' c2'] 31)) := ext_alloc y2 _
  have h2 := h2.below (ext_alloc (Below.refl _ _) (.cells #[.bool b, .slice A2 k2 c2, .slice A2' k2' c2'] 31))
  have g2 := g2.below (ext_alloc (Below.refl _ _) (.cells #[.bool b, .slice A2 k2 c2, .slice A2' k2' c2'] 31))
  have hsz2 : w2.heap.size < (w2.alloc (.cells #[.bool b, .slice A2 k2 c2, .slice A2' k2' c2'] 31)).heap.size := by simp
  generalize w2.alloc (.cells #[.bool b, .slice A2 k2 c2, .slice A2' k2' c2'] 31) = W2 at *
  generalize w2.heap.size = B2 at *
  have HG2 := Lib.hid (fun (w' : World) (h : Ext W2 w') => hG2.below h)
  have HC2 := Lib.hid (fun (w' : World) (h : Ext W2 w') => And.intro (h2.below h) (g2.below h))
  clear hG2 h2 g2 y2 hsz2
  go_wp2_with fail
  refine (H3.out _ (HT.out _ (V0.trans (Y1.trans Y2)))).mono ?_
  rintro e w3 ⟨A3, k3, c3, A3', k3', c3', rfl, h3, g3, y3, n3, n3'⟩
  clear n3 n3'
  go_upto_region 6 with (fail)
  have hG3 := FBox.new w3 (.bool b') (.slice A3 k3 c3) (.slice A3' k3' c3') 31
  have Y3 : Ext W2 (w3.alloc (.cells #[.bool b', .slice A3 k3 c3, .slice A3' k3' c3'] 31)) := ext_alloc y3 _
  have h3 := h3.below (ext_alloc (Below.refl _ _) (.cells #[.bool b', .slice A3 k3 c3, .slice A3' k3' c3'] 31))
  have g3 := g3.below (ext_alloc (Below.refl _ _) (.cells #[.bool b', .slice A3 k3 c3, .slice A3' k3' c3'] 31))
  have hsz3 : w3.heap.size < (w3.alloc (.cells #[.bool b', .slice A3 k3 c3, .slice A3' k3' c3'] 31)).heap.size := by simp
  generalize w3.alloc (.cells #[.bool b', .slice A3 k3 c3, .slice A3' k3' c3'] 31) = W3 at *
  generalize w3.heap.size = B3 at *
  have HG3 := Lib.hid (fun (w' : World) (h : Ext W3 w') => hG3.below h)
  have HC3 := Lib.hid (fun (w' : World) (h : Ext W3 w') => And.intro (h3.below h) (g3.below h))
  clear hG3 h3 g3 y3 hsz3
  go_wp2_with fail
  refine (H4.out _).mono ?_
  rintro e w4 ⟨A4, k4, c4, A4', k4', c4', rfl, h4, g4, y4, n4, n4'⟩
  clear n4 n4'
  go_upto_region 7 with (fail)
  have hG4 := FBox.new w4 (.bool b') (.slice A4 k4 c4) (.slice A4' k4' c4') 31
  have Y4 : Ext W3 (w4.alloc (.cells #[.bool b', .slice A4 k4 c4, .slice A4' k4' c4'] 31)) := ext_alloc y4 _
  have h4 := h4.below (ext_alloc (Below.refl _ _) (.cells #[.bool b', .slice A4 k4 c4, .slice A4' k4' c4'] 31))
  have g4 := g4.below (ext_alloc (Below.refl _ _) (.cells #[.bool b', .slice A4 k4 c4, .slice A4' k4' c4'] 31))
  have hsz4 : w4.heap.size < (w4.alloc (.cells #[.bool b', .slice A4 k4 c4, .slice A4' k4' c4'] 31)).heap.size := by simp
  generalize w4.alloc (.cells #[.bool b', .slice A4 k4 c4, .slice A4' k4' c4'] 31) = W4 at *
  generalize w4.heap.size = B4 at *
  have HG4 := Lib.hid (fun (w' : World) (h : Ext W4 w') => hG4.below h)
  have HC4 := Lib.hid (fun (w' : World) (h : Ext W4 w') => And.intro (h4.below h) (g4.below h))
  clear hG4 h4 g4 y4 hsz4
  have E3 : Ext W3 W4 := Y4
  have E2 : Ext W2 W4 := Y3.trans E3
  have E1 : Ext W1 W4 := Y2.trans E2
  have HC := Lib.hid (fun (w' : World) (h : Ext W4 w') => (⟨HG1.out _ (E1.trans h), HG2.out _ (E2.trans h), HG3.out _ (E3.trans h), HG4.out _ h⟩ : _ ∧ _ ∧ _ ∧ _))
  obtain ⟨⟨p0, p1, p2, _, _, _⟩, ⟨q0, q1, q2, _, _, _⟩, ⟨r0, r1, r2, _, _, _⟩, s0, s1, s2, _, _, _⟩ := HC.out _ (Below.refl _ _)
  have f0 : Ext W4 W4 := Below.refl _ _
  go_wp2_with (first
    | (go_at_call 33; (with_reducible refine (bfrac_eq (HC1.out _ (E1.trans f0)).1 (HC1.out _ (E1.trans f0)).2 (HC2.out _ (E2.trans f0)).1 (HC2.out _ (E2.trans f0)).2).mono ?_); rintro _ s1' ⟨rfl, z5⟩; have f0 := Ext.trans f0 z5; obtain ⟨⟨p0, p1, p2, _, _, _⟩, ⟨q0, q1, q2, _, _, _⟩, ⟨r0, r1, r2, _, _, _⟩, s0, s1, s2, _, _, _⟩ := HC.out _ f0)
    | (go_at_call 33; (with_reducible refine (bfrac_eq (HC3.out _ (E3.trans f0)).1 (HC3.out _ (E3.trans f0)).2 (HC4.out _ f0).1 (HC4.out _ f0).2).mono ?_); rintro _ s1' ⟨rfl, z5⟩; have f0 := Ext.trans f0 z5; obtain ⟨⟨p0, p1, p2, _, _, _⟩, ⟨q0, q1, q2, _, _, _⟩, ⟨r0, r1, r2, _, _, _⟩, s0, s1, s2, _, _, _⟩ := HC.out _ f0))
  go_ret
  exact ⟨rfl, V0.trans (Y1.trans (E1.trans f0))⟩

theorem law_OTails {n D d : Int} {w : World} (hn : -9223372036854775808 ≤ n ∧ n ≤ 9223372036854775807) (hD : -9223372036854775808 ≤ D ∧ D ≤ 9223372036854775807) (hd : -9223372036854775808 ≤ d ∧ d ≤ 9223372036854775807) (ht : Tab10 w) :
    Calls Tryd.prog 8 #[.int .i64 n, .int .i64 D, .int .i64 d] w (fun e w' => e = .returned (.bool true) ∧ Ext w w') := by
  by_cases h : OccIn n D
  · obtain ⟨⟨h1, h2⟩, h3, h4⟩ := h
    obtain ⟨N, rfl⟩ : ∃ N : Nat, n = N := ⟨n.toNat, by omega⟩
    obtain ⟨E, rfl⟩ : ∃ E : Nat, D = E := ⟨D.toNat, by omega⟩
    refine otails_walk (fun w ht => (oatmost_ok (n := N) (D := E) (d := d) (by omega) (by omega) (by omega) hd ht).mono fun _ _ h => h.p)
      (fun w => (ratmost_ok (n := N) (D := E) (d := d) (by omega) (by omega) (by omega)).mono fun _ _ h => ?_)
      (fun w ht => (oatleast_ok (n := N) (D := E) (d := d) (by omega) (by omega) (by omega) hd ht).mono fun _ _ h => h.p)
      (fun w => (ratleast_ok (n := N) (D := E) (d := d) (by omega) (by omega) (by omega)).mono fun _ _ h => ?_) ht
    · rw [tail_most] at h; exact h.p
    · rw [tail_least] at h; exact h.p
  · exact otails_walk (fun w ht => (oatmost_no h).mono fun _ _ h => h.p) (fun w => (ratmost_no h).mono fun _ _ h => h.p)
      (fun w ht => (oatleast_no h).mono fun _ _ h => h.p) (fun w => (ratleast_no h).mono fun _ _ h => h.p) ht

end Go.Proofs.YtglphodaoafdmaaDoor
