/- ref01: DivMod, the small cases. -/
import Derived.Test.YtkjcbfaimonaoaaDoorRefMul
set_option linter.unusedVariables false
set_option linter.unusedSimpArgs false
set_option maxRecDepth 100000
namespace Go.Proofs.YtkjcbfaimonaoaaDoor
open Go.RowKit Num

set_option maxHeartbeats 2000000 in
theorem rdivmod_zero {x y : Value} {w : World} {a : Nat} (hx : NatV w x a) (hy : NatV w y 0) :
    Calls Tryd.prog 89 #[.agg #[x], .agg #[y]] w (fun e w' => e = .returned (.tuple #[.agg #[.slice none 0 0], .agg #[.slice none 0 0], .int .i64 12]) ∧ Ext w w') := by
  obtain ⟨b, hb⟩ : ∃ b : Nat, b = 0 := ⟨_, rfl⟩
  rw [← hb] at hy
  have Hb := Lib.hid hb
  clear hb
  go_enter Tryd.func89, Tryd.ntmps89
  go_upto_region 1 with (fail)
  have hB0 : Boxes w ((((w.alloc (.cells #[x] 30)).alloc (.cells #[y] 30)).alloc (.cells #[.slice none 0 0] 30)).alloc (.cells #[.slice none 0 0] 30)) [[x], [y], [.slice none 0 0], [.slice none 0 0]] := ((((Boxes.nil_ w).alloc rfl [x] 30).alloc (by simp) [y] 30).alloc (by simp) [.slice none 0 0] 30).alloc (by simp) [.slice none 0 0] 30
  generalize (((w.alloc (.cells #[x] 30)).alloc (.cells #[y] 30)).alloc (.cells #[.slice none 0 0] 30)).alloc (.cells #[.slice none 0 0] 30) = W0 at *
  have hx0 : NatV W0 x a := hx.below hB0.ext
  have HB0 := Lib.hid hB0
  obtain ⟨cx0, fx0⟩ : W0.cell? ⟨w.heap.size, 0, none⟩ = some x ∧ W0.frozen? ⟨w.heap.size, 0, none⟩ = false := hB0.cell 0 _ 0 _ rfl rfl
  clear hB0
  go_wp2_with fail
  refine (norm_n hx0).mono ?_
  intro e w1 hg
  obtain ⟨A1, c1, rfl, h1, x1, n1⟩ := hg.form
  clear hg
  have hB1 := HB0.out.below x1
  obtain ⟨cx1, fx1⟩ : w1.cell? ⟨w.heap.size, 0, none⟩ = some x ∧ w1.frozen? ⟨w.heap.size, 0, none⟩ = false := hB1.cell 0 _ 0 _ rfl rfl
  obtain ⟨cy1, fy1⟩ : w1.cell? ⟨w.heap.size + 1, 0, none⟩ = some y ∧ w1.frozen? ⟨w.heap.size + 1, 0, none⟩ = false := hB1.cell 1 _ 0 _ rfl rfl
  have HB1 := Lib.hid hB1
  clear hB1
  go_wp2_with fail
  have hB2 : Boxes w (w1.setCell ⟨w.heap.size, 0, none⟩ (.slice A1 (limbsOf a).length c1)) [[.slice A1 (limbsOf a).length c1], [y], [.slice none 0 0], [.slice none 0 0]] := HB1.out.set 0 0 _
  have hs0 : w.heap.size + 4 ≤ W0.heap.size := HB0.out.size
  have h1' := U32s.setNew (p := ⟨w.heap.size, 0, none⟩) h1 n1 (by show w.heap.size < _; omega) (.slice A1 (limbsOf a).length c1)
  have hs1 : w.heap.size + 4 ≤ (w1.setCell ⟨w.heap.size, 0, none⟩ (.slice A1 (limbsOf a).length c1)).heap.size := hB2.size
  clear cx0 fx0 cx1 fx1 cy1 fy1 HB1
  generalize w1.setCell ⟨w.heap.size, 0, none⟩ (.slice A1 (limbsOf a).length c1) = W1 at *
  obtain ⟨cy2, fy2⟩ : W1.cell? ⟨w.heap.size + 1, 0, none⟩ = some y ∧ W1.frozen? ⟨w.heap.size + 1, 0, none⟩ = false := hB2.cell 1 _ 0 _ rfl rfl
  have hy1 : NatV W1 y b := hy.below hB2.ext
  have HB2 := Lib.hid hB2
  clear hB2
  refine (norm_n hy1).mono ?_
  intro e w3 hg
  obtain ⟨A2, c2, rfl, h2, x3, n2⟩ := hg.form
  clear hg
  have hB3 := HB2.out.below x3
  obtain ⟨cy3, fy3⟩ : w3.cell? ⟨w.heap.size + 1, 0, none⟩ = some y ∧ w3.frozen? ⟨w.heap.size + 1, 0, none⟩ = false := hB3.cell 1 _ 0 _ rfl rfl
  have hB4 : Boxes w (w3.setCell ⟨w.heap.size + 1, 0, none⟩ (.slice A2 (limbsOf b).length c2)) [[.slice A1 (limbsOf a).length c1], [.slice A2 (limbsOf b).length c2], [.slice none 0 0], [.slice none 0 0]] := hB3.set 1 0 _
  have n1' : New (w.heap.size + 4) (.slice A1 (limbsOf a).length c1) := n1.mono hs0
  have n2' : New (w.heap.size + 4) (.slice A2 (limbsOf b).length c2) := n2.mono hs1
  have h1'' := U32s.setNew (p := ⟨w.heap.size + 1, 0, none⟩) (CanV.below h1' x3) n1' (by show w.heap.size + 1 < _; omega) (.slice A2 (limbsOf b).length c2)
  have h2'' := U32s.setNew (p := ⟨w.heap.size + 1, 0, none⟩) h2 n2' (by show w.heap.size + 1 < _; omega) (.slice A2 (limbsOf b).length c2)
  clear hB3 cy2 fy2 h1' h2 h1
  go_upto_region 3 with (fail)
  generalize w3.setCell ⟨w.heap.size + 1, 0, none⟩ (.slice A2 (limbsOf b).length c2) = W2 at *
  have h1' : CanV W2 (.slice A1 (limbsOf a).length c1) a := h1''
  have h2' : CanV W2 (.slice A2 (limbsOf b).length c2) b := h2''
  clear h1'' h2'' n1 n2 hs0 hs1 x1 x3 cy3 fy3 hx0 hy1 HB0 HB2 hx hy
  clear w3 W1 w1 W0
  obtain ⟨cx, fx⟩ : W2.cell? ⟨w.heap.size, 0, none⟩ = some (.slice A1 (limbsOf a).length c1) ∧ W2.frozen? ⟨w.heap.size, 0, none⟩ = false := hB4.cell 0 _ 0 _ rfl rfl
  obtain ⟨cy, fy⟩ : W2.cell? ⟨w.heap.size + 1, 0, none⟩ = some (.slice A2 (limbsOf b).length c2) ∧ W2.frozen? ⟨w.heap.size + 1, 0, none⟩ = false := hB4.cell 1 _ 0 _ rfl rfl
  have hE : Ext w W2 := hB4.ext
  have HB := Lib.hid hB4
  clear hB4
  obtain ⟨cz, fz⟩ : W2.cell? ⟨w.heap.size + 1 + 1, 0, none⟩ = some (.slice none 0 0) ∧ W2.frozen? ⟨w.heap.size + 1 + 1, 0, none⟩ = false := HB.out.cell 2 _ 0 _ rfl rfl
  obtain ⟨cu, fu⟩ : W2.cell? ⟨w.heap.size + 1 + 1 + 1, 0, none⟩ = some (.slice none 0 0) ∧ W2.frozen? ⟨w.heap.size + 1 + 1 + 1, 0, none⟩ = false := HB.out.cell 3 _ 0 _ rfl rfl
  rw [limbs_zero_len Hb.out] at cy ⊢
  go_wp2
  refine bodyPost_ret (v := .tuple #[.agg #[.slice none 0 0], .agg #[.slice none 0 0], .int .i64 12]) (by obtain ⟨e1, e2⟩ := two_cells (u := .slice none 0 0) (v := .slice none 0 0) cz cu (by simp); simp [results, Tryd.results89, go_sem, e1, e2]) rfl ?_
  exact ⟨rfl, (hE.setCell (by show w.heap.size ≤ w.heap.size + 1 + 1; omega) _).setCell (by show w.heap.size ≤ w.heap.size + 1 + 1 + 1; omega) _⟩

set_option maxHeartbeats 2000000 in
theorem rdivmod_small {x y : Value} {a b : Nat} {w : World} (hx : NatV w x a) (hy : NatV w y b) (hlt : a < b) (ha : (limbsOf a).length ≤ 1099511627776) (hb : (limbsOf b).length ≤ 1099511627776) :
    Calls Tryd.prog 89 #[.agg #[x], .agg #[y]] w (DivModR w a b) := by
  have hc : cmpN a b < 0 := cmpN_neg.2 hlt
  have hlp := limbs_pos_len (show 0 < b by omega)
  go_enter Tryd.func89, Tryd.ntmps89
  go_upto_region 1 with (fail)
  have hB0 : Boxes w ((((w.alloc (.cells #[x] 30)).alloc (.cells #[y] 30)).alloc (.cells #[.slice none 0 0] 30)).alloc (.cells #[.slice none 0 0] 30)) [[x], [y], [.slice none 0 0], [.slice none 0 0]] := ((((Boxes.nil_ w).alloc rfl [x] 30).alloc (by simp) [y] 30).alloc (by simp) [.slice none 0 0] 30).alloc (by simp) [.slice none 0 0] 30
  generalize (((w.alloc (.cells #[x] 30)).alloc (.cells #[y] 30)).alloc (.cells #[.slice none 0 0] 30)).alloc (.cells #[.slice none 0 0] 30) = W0 at *
  have hx0 : NatV W0 x a := hx.below hB0.ext
  have HB0 := Lib.hid hB0
  obtain ⟨cx0, fx0⟩ : W0.cell? ⟨w.heap.size, 0, none⟩ = some x ∧ W0.frozen? ⟨w.heap.size, 0, none⟩ = false := hB0.cell 0 _ 0 _ rfl rfl
  clear hB0
  go_wp2_with fail
  refine (norm_n hx0).mono ?_
  intro e w1 hg
  obtain ⟨A1, c1, rfl, h1, x1, n1⟩ := hg.form
  clear hg
  have hB1 := HB0.out.below x1
  obtain ⟨cx1, fx1⟩ : w1.cell? ⟨w.heap.size, 0, none⟩ = some x ∧ w1.frozen? ⟨w.heap.size, 0, none⟩ = false := hB1.cell 0 _ 0 _ rfl rfl
  obtain ⟨cy1, fy1⟩ : w1.cell? ⟨w.heap.size + 1, 0, none⟩ = some y ∧ w1.frozen? ⟨w.heap.size + 1, 0, none⟩ = false := hB1.cell 1 _ 0 _ rfl rfl
  have HB1 := Lib.hid hB1
  clear hB1
  go_wp2_with fail
  have hB2 : Boxes w (w1.setCell ⟨w.heap.size, 0, none⟩ (.slice A1 (limbsOf a).length c1)) [[.slice A1 (limbsOf a).length c1], [y], [.slice none 0 0], [.slice none 0 0]] := HB1.out.set 0 0 _
  have hs0 : w.heap.size + 4 ≤ W0.heap.size := HB0.out.size
  have h1' := U32s.setNew (p := ⟨w.heap.size, 0, none⟩) h1 n1 (by show w.heap.size < _; omega) (.slice A1 (limbsOf a).length c1)
  have hs1 : w.heap.size + 4 ≤ (w1.setCell ⟨w.heap.size, 0, none⟩ (.slice A1 (limbsOf a).length c1)).heap.size := hB2.size
  clear cx0 fx0 cx1 fx1 cy1 fy1 HB1
  generalize w1.setCell ⟨w.heap.size, 0, none⟩ (.slice A1 (limbsOf a).length c1) = W1 at *
  obtain ⟨cy2, fy2⟩ : W1.cell? ⟨w.heap.size + 1, 0, none⟩ = some y ∧ W1.frozen? ⟨w.heap.size + 1, 0, none⟩ = false := hB2.cell 1 _ 0 _ rfl rfl
  have hy1 : NatV W1 y b := hy.below hB2.ext
  have HB2 := Lib.hid hB2
  clear hB2
  refine (norm_n hy1).mono ?_
  intro e w3 hg
  obtain ⟨A2, c2, rfl, h2, x3, n2⟩ := hg.form
  clear hg
  have hB3 := HB2.out.below x3
  obtain ⟨cy3, fy3⟩ : w3.cell? ⟨w.heap.size + 1, 0, none⟩ = some y ∧ w3.frozen? ⟨w.heap.size + 1, 0, none⟩ = false := hB3.cell 1 _ 0 _ rfl rfl
  have hB4 : Boxes w (w3.setCell ⟨w.heap.size + 1, 0, none⟩ (.slice A2 (limbsOf b).length c2)) [[.slice A1 (limbsOf a).length c1], [.slice A2 (limbsOf b).length c2], [.slice none 0 0], [.slice none 0 0]] := hB3.set 1 0 _
  have n1' : New (w.heap.size + 4) (.slice A1 (limbsOf a).length c1) := n1.mono hs0
  have n2' : New (w.heap.size + 4) (.slice A2 (limbsOf b).length c2) := n2.mono hs1
  have h1'' := U32s.setNew (p := ⟨w.heap.size + 1, 0, none⟩) (CanV.below h1' x3) n1' (by show w.heap.size + 1 < _; omega) (.slice A2 (limbsOf b).length c2)
  have h2'' := U32s.setNew (p := ⟨w.heap.size + 1, 0, none⟩) h2 n2' (by show w.heap.size + 1 < _; omega) (.slice A2 (limbsOf b).length c2)
  clear hB3 cy2 fy2 h1' h2 h1
  go_upto_region 3 with (fail)
  generalize w3.setCell ⟨w.heap.size + 1, 0, none⟩ (.slice A2 (limbsOf b).length c2) = W2 at *
  have h1' : CanV W2 (.slice A1 (limbsOf a).length c1) a := h1''
  have h2' : CanV W2 (.slice A2 (limbsOf b).length c2) b := h2''
  clear h1'' h2'' n1 n2 hs0 hs1 x1 x3 cy3 fy3 hx0 hy1 HB0 HB2 hx hy
  clear w3 W1 w1 W0
  obtain ⟨cx, fx⟩ : W2.cell? ⟨w.heap.size, 0, none⟩ = some (.slice A1 (limbsOf a).length c1) ∧ W2.frozen? ⟨w.heap.size, 0, none⟩ = false := hB4.cell 0 _ 0 _ rfl rfl
  obtain ⟨cy, fy⟩ : W2.cell? ⟨w.heap.size + 1, 0, none⟩ = some (.slice A2 (limbsOf b).length c2) ∧ W2.frozen? ⟨w.heap.size + 1, 0, none⟩ = false := hB4.cell 1 _ 0 _ rfl rfl
  have hE : Ext w W2 := hB4.ext
  have HB := Lib.hid hB4
  clear hB4
  have n1 : New (w.heap.size + 4) (.slice A1 (limbsOf a).length c1) := n1'
  go_wp2_with fail
  refine (rcmp_n (CanV.nat h1' ha) (CanV.nat h2' hb)).mono ?_
  rintro e w1 ⟨rfl, x1⟩
  have hB1 := HB.out.below x1
  obtain ⟨cx1, fx1⟩ : w1.cell? ⟨w.heap.size, 0, none⟩ = some (.slice A1 (limbsOf a).length c1) ∧ w1.frozen? ⟨w.heap.size, 0, none⟩ = false := hB1.cell 0 _ 0 _ rfl rfl
  obtain ⟨cz, fz⟩ : w1.cell? ⟨w.heap.size + 1 + 1, 0, none⟩ = some (.slice none 0 0) ∧ w1.frozen? ⟨w.heap.size + 1 + 1, 0, none⟩ = false := hB1.cell 2 _ 0 _ rfl rfl
  obtain ⟨cu, fu⟩ : w1.cell? ⟨w.heap.size + 1 + 1 + 1, 0, none⟩ = some (.slice none 0 0) ∧ w1.frozen? ⟨w.heap.size + 1 + 1 + 1, 0, none⟩ = false := hB1.cell 3 _ 0 _ rfl rfl
  have hE1 := hB1.ext
  clear hB1 cx fx cy fy
  generalize cmpN a b = c at *
  go_wp2
  go_region
  all_goals go_wp2
  have hb0 : 0 < b := by omega
  have hr1 : CanV w1 (.slice A1 (limbsOf a).length c1) a := h1'.below x1
  refine bodyPost_ret (v := .tuple #[.agg #[.slice none 0 0], .agg #[.slice A1 (limbsOf a).length c1], .int .i64 0]) (by obtain ⟨e1, e2⟩ := two_cells (u := .slice none 0 0) (v := .slice A1 (limbsOf a).length c1) cz cu (by simp); simp [results, Tryd.results89, go_sem, e1, e2]) rfl ?_
  refine ⟨_, _, _, _, _, _, rfl, ?_, ?_, ((hE1.setCell (by show w.heap.size ≤ w.heap.size + 1 + 1; omega) _).setCell (by show w.heap.size ≤ w.heap.size + 1 + 1 + 1; omega) _).drew, New.nil_ _, n1.mono (by omega)⟩
  · rw [Nat.div_eq_of_lt hlt]; exact CanV.nil_ _
  · rw [Nat.mod_eq_of_lt hlt]
    exact CanV.drew ((U32s.setNew hr1 n1 (by show w.heap.size + 1 + 1 < _; omega) _).setNew n1 (by show w.heap.size + 1 + 1 + 1 < _; omega) _)

end Go.Proofs.YtkjcbfaimonaoaaDoor
