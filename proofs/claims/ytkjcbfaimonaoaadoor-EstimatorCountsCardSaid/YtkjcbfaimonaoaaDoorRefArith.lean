/- ref01: Add, Sub, Mul. -/
import Derived.Test.YtkjcbfaimonaoaaDoorRefOps
set_option linter.unusedVariables false
set_option linter.unusedSimpArgs false
set_option maxRecDepth 100000
namespace Go.Proofs.YtkjcbfaimonaoaaDoor
open Go.RowKit Num

/-- What 'Add' has done behind k rounds. -/
structure AddAt (xs ys : List Nat) (k : Nat) (zs : List Nat) : Prop where
  len : zs.length = k
  small : ∀ z ∈ zs, z < 4294967296
  eq : val zs = val (xs.take k) + val (ys.take k)
theorem AddAt.start (xs ys : List Nat) : AddAt xs ys 0 [] := ⟨rfl, by simp, by simp [val]⟩
theorem AddAt.step {xs ys zs : List Nat} {k : Nat} (h : AddAt xs ys k zs) (hx : Digs xs) (hy : Digs ys) : AddAt xs ys (k + 1) (zs ++ [xs.getD k 0 + ys.getD k 0]) := by
  obtain ⟨h1, h2, h3⟩ := h
  have h5 := hx.getD k
  have h6 := hy.getD k
  refine ⟨by simp [h1], ?_, ?_⟩
  · intro z hz
    rcases List.mem_append.1 hz with hz | hz
    · exact h2 z hz
    · rw [List.mem_singleton] at hz; omega
  · rw [getD_take_succ, getD_take_succ, val_snoc, h1, h3, Nat.mul_add]; omega
theorem AddAt.done {xs ys zs : List Nat} {k : Nat} (h : AddAt xs ys k zs) (h1 : xs.length ≤ k) (h2 : ys.length ≤ k) : val zs = val xs + val ys := by
  rw [h.eq, List.take_of_length_le h1, List.take_of_length_le h2]

set_option maxHeartbeats 2000000 in
theorem radd_n {x y : Value} {a b : Nat} {w : World} (hx : NatV w x a) (hy : NatV w y b) (ha : (limbsOf a).length ≤ 1099511627776) (hb : (limbsOf b).length ≤ 1099511627776) :
    Calls Tryd.prog 77 #[.agg #[x], .agg #[y]] w (GivesN w (a + b)) := by
  obtain ⟨i0, hi, hz0, hz1, hz2⟩ := info_parts info_u32
  go_enter Tryd.func77, Tryd.ntmps77
  go_upto_region 1 with (fail)
  have hB0 : Boxes w (((w.alloc (.cells #[x] 30)).alloc (.cells #[y] 30)).alloc (.cells #[.slice none 0 0] 30)) [[x], [y], [.slice none 0 0]] := (((Boxes.nil_ w).alloc rfl [x] 30).alloc (by simp) [y] 30).alloc (by simp) [.slice none 0 0] 30
  generalize ((w.alloc (.cells #[x] 30)).alloc (.cells #[y] 30)).alloc (.cells #[.slice none 0 0] 30) = W0 at *
  have hx0 : NatV W0 x a := hx.below hB0.ext
  have HB0 := Lib.hid hB0
  obtain ⟨cx0, fx0⟩ : W0.cell? ⟨w.heap.size, 0, none⟩ = some x ∧ W0.frozen? ⟨w.heap.size, 0, none⟩ = false := hB0.cell 0 _ 0 _ rfl rfl
  clear hB0
  go_wp2_with fail
  refine (norm_n hx0).mono ?_
  intro e w1 hg
  obtain ⟨A1, c1, rfl, h1, x1, n1⟩ := hg.form
  clear hg
  have hB1 := HB0.out.below x1
  obtain ⟨cx1, fx1⟩ : w1.cell? ⟨w.heap.size, 0, none⟩ = some x ∧ w1.frozen? ⟨w.heap.size, 0, none⟩ = false := hB1.cell 0 _ 0 _ rfl rfl
  obtain ⟨cy1, fy1⟩ : w1.cell? ⟨w.heap.size + 1, 0, none⟩ = some y ∧ w1.frozen? ⟨w.heap.size + 1, 0, none⟩ = false := hB1.cell 1 _ 0 _ rfl rfl
  have HB1 := Lib.hid hB1
  clear hB1
  go_wp2_with fail
  have hB2 : Boxes w (w1.setCell ⟨w.heap.size, 0, none⟩ (.slice A1 (limbsOf a).length c1)) [[.slice A1 (limbsOf a).length c1], [y], [.slice none 0 0]] := HB1.out.set 0 0 _
  have hs0 : w.heap.size + 3 ≤ W0.heap.size := HB0.out.size
  have h1' := U32s.setNew (p := ⟨w.heap.size, 0, none⟩) h1 n1 (by show w.heap.size < _; omega) (.slice A1 (limbsOf a).length c1)
  have hs1 : w.heap.size + 3 ≤ (w1.setCell ⟨w.heap.size, 0, none⟩ (.slice A1 (limbsOf a).length c1)).heap.size := hB2.size
  clear cx0 fx0 cx1 fx1 cy1 fy1 HB1
  generalize w1.setCell ⟨w.heap.size, 0, none⟩ (.slice A1 (limbsOf a).length c1) = W1 at *
  obtain ⟨cy2, fy2⟩ : W1.cell? ⟨w.heap.size + 1, 0, none⟩ = some y ∧ W1.frozen? ⟨w.heap.size + 1, 0, none⟩ = false := hB2.cell 1 _ 0 _ rfl rfl
  have hy1 : NatV W1 y b := hy.below hB2.ext
  have HB2 := Lib.hid hB2
  clear hB2
  refine (norm_n hy1).mono ?_
  intro e w3 hg
  obtain ⟨A2, c2, rfl, h2, x3, n2⟩ := hg.form
  clear hg
  have hB3 := HB2.out.below x3
  obtain ⟨cy3, fy3⟩ : w3.cell? ⟨w.heap.size + 1, 0, none⟩ = some y ∧ w3.frozen? ⟨w.heap.size + 1, 0, none⟩ = false := hB3.cell 1 _ 0 _ rfl rfl
  have hB4 : Boxes w (w3.setCell ⟨w.heap.size + 1, 0, none⟩ (.slice A2 (limbsOf b).length c2)) [[.slice A1 (limbsOf a).length c1], [.slice A2 (limbsOf b).length c2], [.slice none 0 0]] := hB3.set 1 0 _
  have n1' : New (w.heap.size + 3) (.slice A1 (limbsOf a).length c1) := n1.mono hs0
  have n2' : New (w.heap.size + 3) (.slice A2 (limbsOf b).length c2) := n2.mono hs1
  have h1'' := U32s.setNew (p := ⟨w.heap.size + 1, 0, none⟩) (CanV.below h1' x3) n1' (by show w.heap.size + 1 < _; omega) (.slice A2 (limbsOf b).length c2)
  have h2'' := U32s.setNew (p := ⟨w.heap.size + 1, 0, none⟩) h2 n2' (by show w.heap.size + 1 < _; omega) (.slice A2 (limbsOf b).length c2)
  clear hB3 cy2 fy2 h1' h2 h1
  go_upto_region 3 with (fail)
  generalize w3.setCell ⟨w.heap.size + 1, 0, none⟩ (.slice A2 (limbsOf b).length c2) = W2 at *
  have h1' : CanV W2 (.slice A1 (limbsOf a).length c1) a := h1''
  have h2' : CanV W2 (.slice A2 (limbsOf b).length c2) b := h2''
  clear h1'' h2'' n1 n2 hs0 hs1 x1 x3 cy3 fy3 hx0 hy1 HB0 HB2 hx hy
  clear w3 W1 w1 W0
  have hE : Ext w W2 := hB4.ext
  have hs2 : w.heap.size + 1 + 1 + 1 ≤ W2.heap.size := hB4.size
  have HB := Lib.hid hB4
  clear hB4
  obtain ⟨A, cap, e, q2, q3, q4⟩ := h1'
  injection e with e1 e2 e3
  subst e1 e3
  obtain ⟨B, cap', e, k2, k3, k4⟩ := h2'
  injection e with e1 e2' e3
  subst e1 e3
  clear e2 e2'
  have da := limbsOf_digs a
  have db := limbsOf_digs b
  have va := val_limbsOf a
  have vb := val_limbsOf b
  generalize limbsOf a = xs at *
  generalize limbsOf b = ys at *
  have HVA := Lib.hid va
  have HVB := Lib.hid vb
  clear va vb
  go_wp2
  go_loopw [5, 6] (fun v iv wr => ∃ (k : Nat) (zs : List Nat) (A' : Option Addr) (c' : Nat), iv = .int .i64 k ∧ v = .slice A' k c' ∧ wr.ownsRow W2.heap.size 70 1 (.slice A' k c') k (u32s zs) ∧ Ext W2 wr ∧ AddAt xs ys k zs ∧ (k ≤ xs.length ∨ k ≤ ys.length))
    (fun _ iv _ => xs.length + ys.length - (intOf iv).toNat)
  case atStart => exact ⟨0, [], none, 0, rfl, rfl, World.ownsRow_nil _ _ _ _, Below.refl _ _, AddAt.start xs ys, .inl (Nat.zero_le _)⟩
  case round =>
    obtain ⟨k, zs, A', c', rfl, rfl, hown, hx, hat, hle⟩ := hrel
    have hBr := HB.out.below hx
    have cxr : wr.cell? ⟨w.heap.size, 0, none⟩ = some (.slice A1 xs.length c1) := (hBr.cell 0 _ 0 _ rfl rfl).1
    have cyr : wr.cell? ⟨w.heap.size + 1, 0, none⟩ = some (.slice A2 ys.length c2) := (hBr.cell 1 _ 0 _ rfl rfl).1
    clear hBr
    have hWs := hx.size
    have hxk := da.getD k
    have hyk := db.getD k
    by_cases h1 : k < xs.length
    · have hst := Lib.hid (hat.step da db)
      obtain ⟨ad, u, rfl, hb1, hu, hcl⟩ := (q4.below hx).at_ (k := k) h1
      rw [u32s_get _ _ h1] at hu
      cases hu
      clear hat
      generalize xs.getD k 0 = x at *
      by_cases h2 : k < ys.length
      · obtain ⟨bd, u, rfl, hb2, hu, hcl2⟩ := (k4.below hx).at_ (k := k) h2
        rw [u32s_get _ _ h2] at hu
        cases hu
        generalize ys.getD k 0 = y at *
        go_wp2_with (first | (at_builtin; refine wpList_append_own _ rfl _ _ 28 rfl W2.heap.size 70 i0 (.int .u32 0) 1 4 Tryd.underlying28 hi hz0 hz1 hz2 rfl (by omega) (.slice A' k c') k (u32s zs) rfl (hown.alloc _) ⟨wr.heap.size, 0, none⟩ 1 1 [.int .u32 ((x : Int) + y)] rfl rfl (cell_one_new _ _ _) (ints_oneCell .u32 [_]) (by unfold maxLen; omega) (by omega) (by simp; omega) ?_) | fail)
        intro v2 w4 hown2 hgrow2 _
        have hb2 : Ext W2 w4 := (hx.alloc hx.size _).grown hgrow2 (by have := hx.size; simp; omega) (fun b hb => (hown.lt b hb).1)
        clear hgrow2 hown
        obtain ⟨A3, c3, rfl, _, _⟩ := own_slice hown2
        go_wp2
        go_roundw
        case rel => exact ⟨k + 1, _, A3, c3, by go_num, rfl, by rw [← u32s_snoc]; exact hown2, hb2, hst.out, by omega⟩
        case measure => simp [intOf]; try omega
      · have hy0 : ys.getD k 0 = 0 := by simp [List.getD, List.getElem?_eq_none (show ys.length ≤ k by omega)]
        rw [hy0] at hst
        clear hy0 hyk
        go_wp2_with (first | (at_builtin; refine wpList_append_own _ rfl _ _ 28 rfl W2.heap.size 70 i0 (.int .u32 0) 1 4 Tryd.underlying28 hi hz0 hz1 hz2 rfl (by omega) (.slice A' k c') k (u32s zs) rfl (hown.alloc _) ⟨wr.heap.size, 0, none⟩ 1 1 [.int .u32 (x : Int)] rfl rfl (cell_one_new _ _ _) (ints_oneCell .u32 [_]) (by unfold maxLen; omega) (by omega) (by simp; omega) ?_) | fail)
        intro v2 w4 hown2 hgrow2 _
        have hb2 : Ext W2 w4 := (hx.alloc hx.size _).grown hgrow2 (by have := hx.size; simp; omega) (fun b hb => (hown.lt b hb).1)
        clear hgrow2 hown
        obtain ⟨A3, c3, rfl, _, _⟩ := own_slice hown2
        go_wp2
        go_roundw
        case rel => exact ⟨k + 1, _, A3, c3, by go_num, rfl, by rw [← u32s_snoc]; exact hown2, hb2, hst.out, by omega⟩
        case measure => simp [intOf]; try omega
    · by_cases h2 : k < ys.length
      · have hst := hat.step da db
        have hx0 : xs.getD k 0 = 0 := by simp [List.getD, List.getElem?_eq_none (show xs.length ≤ k by omega)]
        rw [hx0, Nat.zero_add] at hst
        have HST := Lib.hid hst
        obtain ⟨bd, u, rfl, hb2, hu, hcl2⟩ := (k4.below hx).at_ (k := k) h2
        rw [u32s_get _ _ h2] at hu
        cases hu
        clear hat hst hx0 hxk
        generalize ys.getD k 0 = y at *
        go_wp2_with (first | (at_builtin; refine wpList_append_own _ rfl _ _ 28 rfl W2.heap.size 70 i0 (.int .u32 0) 1 4 Tryd.underlying28 hi hz0 hz1 hz2 rfl (by omega) (.slice A' k c') k (u32s zs) rfl (hown.alloc _) ⟨wr.heap.size, 0, none⟩ 1 1 [.int .u32 (y : Int)] rfl rfl (cell_one_new _ _ _) (ints_oneCell .u32 [_]) (by unfold maxLen; omega) (by omega) (by simp; omega) ?_) | fail)
        intro v2 w4 hown2 hgrow2 _
        have hb2 : Ext W2 w4 := (hx.alloc hx.size _).grown hgrow2 (by have := hx.size; simp; omega) (fun b hb => (hown.lt b hb).1)
        clear hgrow2 hown
        obtain ⟨A3, c3, rfl, _, _⟩ := own_slice hown2
        go_wp2
        go_roundw
        case rel => exact ⟨k + 1, _, A3, c3, by go_num, rfl, by rw [← u32s_snoc]; exact hown2, hb2, HST.out, by omega⟩
        case measure => simp [intOf]; try omega
      · have hdone := hat.done (by omega) (by omega)
        rw [HVA.out, HVB.out] at hdone
        have HN : NatV wr (.slice A' k c') (a + b) := ⟨zs, U32s.of_row hown, hat.small, by rw [hat.len]; omega, hdone⟩
        have hEr := hE.trans hx
        clear hat hown hdone
        go_wp2_with fail
        refine (norm_n HN).mono ?_
        rintro e w5 ⟨A5, k5, c5, rfl, h5, x5, n5⟩
        obtain ⟨cz, fz⟩ : w5.cell? ⟨w.heap.size + 1 + 1, 0, none⟩ = some (.slice none 0 0) ∧ w5.frozen? ⟨w.heap.size + 1 + 1, 0, none⟩ = false := (HB.out.below (hx.trans x5)).cell 2 _ 0 _ rfl rfl
        go_wp2
        refine bodyPost_ret (v := .agg #[.slice A5 k5 c5]) (by simp [results, Tryd.results77, go_sem, World.cell?_setCell_same _ _ _ cz]) rfl ?_
        exact ⟨_, _, _, rfl, U32s.setNew h5 n5 (by show w.heap.size + 1 + 1 < _; omega) _, (hEr.trans x5).setCell (by show w.heap.size ≤ w.heap.size + 1 + 1; omega) _, n5.mono (by omega)⟩

set_option maxHeartbeats 2000000 in
theorem rsub_lt {x y : Value} {a b : Nat} {w : World} (hx : NatV w x a) (hy : NatV w y b) (hlt : a < b) :
    Calls Tryd.prog 79 #[.agg #[x], .agg #[y]] w (fun e w' => e = .returned (.tuple #[.agg #[.slice none 0 0], .int .i64 2]) ∧ Ext w w') := by
  have hc : cmpN a b < 0 := cmpN_neg.2 hlt
  go_enter Tryd.func79, Tryd.ntmps79
  go_upto_region 1 with (fail)
  have hB0 : Boxes w (((w.alloc (.cells #[x] 30)).alloc (.cells #[y] 30)).alloc (.cells #[.slice none 0 0] 30)) [[x], [y], [.slice none 0 0]] := (((Boxes.nil_ w).alloc rfl [x] 30).alloc (by simp) [y] 30).alloc (by simp) [.slice none 0 0] 30
  generalize ((w.alloc (.cells #[x] 30)).alloc (.cells #[y] 30)).alloc (.cells #[.slice none 0 0] 30) = W0 at *
  have hx0 : NatV W0 x a := hx.below hB0.ext
  obtain ⟨cx0, fx0⟩ : W0.cell? ⟨w.heap.size, 0, none⟩ = some x ∧ W0.frozen? ⟨w.heap.size, 0, none⟩ = false := hB0.cell 0 _ 0 _ rfl rfl
  obtain ⟨cy0, fy0⟩ : W0.cell? ⟨w.heap.size + 1, 0, none⟩ = some y ∧ W0.frozen? ⟨w.heap.size + 1, 0, none⟩ = false := hB0.cell 1 _ 0 _ rfl rfl
  have hy0 : NatV W0 y b := hy.below hB0.ext
  have HB := Lib.hid hB0
  clear hB0
  go_wp2_with fail
  refine (rcmp_n hx0 hy0).mono ?_
  rintro e w1 ⟨rfl, x1⟩
  obtain ⟨cz, fz⟩ : w1.cell? ⟨w.heap.size + 1 + 1, 0, none⟩ = some (.slice none 0 0) ∧ w1.frozen? ⟨w.heap.size + 1 + 1, 0, none⟩ = false := (HB.out.below x1).cell 2 _ 0 _ rfl rfl
  generalize cmpN a b = c at *
  go_wp2
  refine bodyPost_ret (v := .tuple #[.agg #[.slice none 0 0], .int .i64 2]) (by simp [results, Tryd.results79, go_sem, World.cell?_setCell_same _ _ _ cz]) rfl ?_
  exact ⟨rfl, (HB.out.ext.trans x1).setCell (by show w.heap.size ≤ w.heap.size + 1 + 1; omega) _⟩

set_option maxHeartbeats 4000000 in
theorem rsub_ge {x y : Value} {a b : Nat} {w : World} (hx : NatV w x a) (hy : NatV w y b) (hge : b ≤ a) (ha : (limbsOf a).length ≤ 1099511627776) :
    Calls Tryd.prog 79 #[.agg #[x], .agg #[y]] w (fun e w' => ∃ A k c, e = .returned (.tuple #[.agg #[.slice A k c], .int .i64 0]) ∧ CanV w' (.slice A k c) (a - b) ∧ Ext w w' ∧ New w.heap.size (.slice A k c)) := by
  have hc : 0 ≤ cmpN a b := by have := @cmpN_neg a b; omega
  have hll := limbsOf_length_mono hge
  obtain ⟨i0, hi, hz0, hz1, hz2⟩ := info_parts info_u32
  go_enter Tryd.func79, Tryd.ntmps79
  go_upto_region 1 with (fail)
  have hV0 : Boxes w (((w.alloc (.cells #[x] 30)).alloc (.cells #[y] 30)).alloc (.cells #[.slice none 0 0] 30)) [[x], [y], [.slice none 0 0]] := (((Boxes.nil_ w).alloc rfl [x] 30).alloc (by simp) [y] 30).alloc (by simp) [.slice none 0 0] 30
  generalize ((w.alloc (.cells #[x] 30)).alloc (.cells #[y] 30)).alloc (.cells #[.slice none 0 0] 30) = V0 at *
  have hv0 : NatV V0 x a := hx.below hV0.ext
  obtain ⟨vx0, gx0⟩ : V0.cell? ⟨w.heap.size, 0, none⟩ = some x ∧ V0.frozen? ⟨w.heap.size, 0, none⟩ = false := hV0.cell 0 _ 0 _ rfl rfl
  obtain ⟨vy0, gy0⟩ : V0.cell? ⟨w.heap.size + 1, 0, none⟩ = some y ∧ V0.frozen? ⟨w.heap.size + 1, 0, none⟩ = false := hV0.cell 1 _ 0 _ rfl rfl
  have hy0 : NatV V0 y b := hy.below hV0.ext
  go_wp2_with fail
  refine (rcmp_n hv0 hy0).mono ?_
  rintro e W0 ⟨rfl, xq⟩
  have hB0 := hV0.below xq
  have hx0 := hv0.below xq
  clear vx0 gx0 vy0 gy0 hV0 hv0 hy0 xq
  clear V0
  generalize cmpN a b = c at *
  go_upto_region 3 with (fail)
  have HB0 := Lib.hid hB0
  obtain ⟨cx0, fx0⟩ : W0.cell? ⟨w.heap.size, 0, none⟩ = some x ∧ W0.frozen? ⟨w.heap.size, 0, none⟩ = false := hB0.cell 0 _ 0 _ rfl rfl
  clear hB0
  go_wp2_with fail
  refine (norm_n hx0).mono ?_
  intro e w1 hg
  obtain ⟨A1, c1, rfl, h1, x1, n1⟩ := hg.form
  clear hg
  have hB1 := HB0.out.below x1
  obtain ⟨cx1, fx1⟩ : w1.cell? ⟨w.heap.size, 0, none⟩ = some x ∧ w1.frozen? ⟨w.heap.size, 0, none⟩ = false := hB1.cell 0 _ 0 _ rfl rfl
  obtain ⟨cy1, fy1⟩ : w1.cell? ⟨w.heap.size + 1, 0, none⟩ = some y ∧ w1.frozen? ⟨w.heap.size + 1, 0, none⟩ = false := hB1.cell 1 _ 0 _ rfl rfl
  have HB1 := Lib.hid hB1
  clear hB1
  go_wp2_with fail
  have hB2 : Boxes w (w1.setCell ⟨w.heap.size, 0, none⟩ (.slice A1 (limbsOf a).length c1)) [[.slice A1 (limbsOf a).length c1], [y], [.slice none 0 0]] := HB1.out.set 0 0 _
  have hs0 : w.heap.size + 3 ≤ W0.heap.size := HB0.out.size
  have h1' := U32s.setNew (p := ⟨w.heap.size, 0, none⟩) h1 n1 (by show w.heap.size < _; omega) (.slice A1 (limbsOf a).length c1)
  have hs1 : w.heap.size + 3 ≤ (w1.setCell ⟨w.heap.size, 0, none⟩ (.slice A1 (limbsOf a).length c1)).heap.size := hB2.size
  clear cx0 fx0 cx1 fx1 cy1 fy1 HB1
  generalize w1.setCell ⟨w.heap.size, 0, none⟩ (.slice A1 (limbsOf a).length c1) = W1 at *
  obtain ⟨cy2, fy2⟩ : W1.cell? ⟨w.heap.size + 1, 0, none⟩ = some y ∧ W1.frozen? ⟨w.heap.size + 1, 0, none⟩ = false := hB2.cell 1 _ 0 _ rfl rfl
  have hy1 : NatV W1 y b := hy.below hB2.ext
  have HB2 := Lib.hid hB2
  clear hB2
  refine (norm_n hy1).mono ?_
  intro e w3 hg
  obtain ⟨A2, c2, rfl, h2, x3, n2⟩ := hg.form
  clear hg
  have hB3 := HB2.out.below x3
  obtain ⟨cy3, fy3⟩ : w3.cell? ⟨w.heap.size + 1, 0, none⟩ = some y ∧ w3.frozen? ⟨w.heap.size + 1, 0, none⟩ = false := hB3.cell 1 _ 0 _ rfl rfl
  have hB4 : Boxes w (w3.setCell ⟨w.heap.size + 1, 0, none⟩ (.slice A2 (limbsOf b).length c2)) [[.slice A1 (limbsOf a).length c1], [.slice A2 (limbsOf b).length c2], [.slice none 0 0]] := hB3.set 1 0 _
  have n1' : New (w.heap.size + 3) (.slice A1 (limbsOf a).length c1) := n1.mono hs0
  have n2' : New (w.heap.size + 3) (.slice A2 (limbsOf b).length c2) := n2.mono hs1
  have h1'' := U32s.setNew (p := ⟨w.heap.size + 1, 0, none⟩) (CanV.below h1' x3) n1' (by show w.heap.size + 1 < _; omega) (.slice A2 (limbsOf b).length c2)
  have h2'' := U32s.setNew (p := ⟨w.heap.size + 1, 0, none⟩) h2 n2' (by show w.heap.size + 1 < _; omega) (.slice A2 (limbsOf b).length c2)
  clear hB3 cy2 fy2 h1' h2 h1
  go_upto_region 5 with (fail)
  generalize w3.setCell ⟨w.heap.size + 1, 0, none⟩ (.slice A2 (limbsOf b).length c2) = W2 at *
  have h1' : CanV W2 (.slice A1 (limbsOf a).length c1) a := h1''
  have h2' : CanV W2 (.slice A2 (limbsOf b).length c2) b := h2''
  clear h1'' h2'' n1 n2 hs0 hs1 x1 x3 cy3 fy3 hx0 hy1 HB0 HB2 hx hy
  clear w3 W1 w1 W0
  have hE : Ext w W2 := hB4.ext
  have hs2 : w.heap.size + 1 + 1 + 1 ≤ W2.heap.size := hB4.size
  have HB := Lib.hid hB4
  clear hB4
  obtain ⟨A, cap, e, q2, q3, q4⟩ := h1'
  injection e with e1 e2 e3
  subst e1 e3
  obtain ⟨B, cap', e, k2, k3, k4⟩ := h2'
  injection e with e1 e2' e3
  subst e1 e3
  clear e2 e2'
  have da := limbsOf_digs a
  have db := limbsOf_digs b
  have va := val_limbsOf a
  have vb := val_limbsOf b
  generalize limbsOf a = xs at *
  generalize limbsOf b = ys at *
  have HVA := Lib.hid va
  have HVB := Lib.hid vb
  clear va vb
  go_wp2
  go_loopw [6, 7, 8] (fun v cv iv wr => ∃ (k c : Nat) (zs : List Nat) (A' : Option Addr) (c' : Nat), k ≤ xs.length ∧ iv = .int .i64 k ∧ v = .slice A' k c' ∧ cv = .int .i64 c ∧ wr.ownsRow W2.heap.size 70 1 (.slice A' k c') k (u32s zs) ∧ Ext W2 wr ∧ MinusAt xs ys k zs c)
    (fun _ _ iv _ => xs.length - (intOf iv).toNat)
  case atStart => exact ⟨0, 0, [], none, 0, Nat.zero_le _, rfl, rfl, rfl, World.ownsRow_nil _ _ _ _, Below.refl _ _, MinusAt.zero xs ys⟩
  case round =>
    obtain ⟨k, c, zs, A', c', hk, rfl, rfl, rfl, hown, hx, hat⟩ := hrel
    have hBr := HB.out.below hx
    have cxr : wr.cell? ⟨w.heap.size, 0, none⟩ = some (.slice A1 xs.length c1) := (hBr.cell 0 _ 0 _ rfl rfl).1
    have cyr : wr.cell? ⟨w.heap.size + 1, 0, none⟩ = some (.slice A2 ys.length c2) := (hBr.cell 1 _ 0 _ rfl rfl).1
    clear hBr
    have hWs := hx.size
    have hsm := hat.small
    by_cases h1 : k < xs.length
    · have hxk := da.getD k
      have hyk := db.getD k
      have hs1 := Lib.hid (hat.low da db)
      have hs2 := Lib.hid (hat.high da db)
      obtain ⟨ad, u, rfl, hb1, hu, hcl⟩ := (q4.below hx).at_ (k := k) h1
      rw [u32s_get _ _ h1] at hu
      cases hu
      clear hat
      generalize xs.getD k 0 = x at *
      by_cases h2 : k < ys.length
      · obtain ⟨bd, u, rfl, hb2, hu, hcl2⟩ := (k4.below hx).at_ (k := k) h2
        rw [u32s_get _ _ h2] at hu
        cases hu
        generalize ys.getD k 0 = y at *
        by_cases hd : x < c + y
        · have hd1 : (x : Int) - c - y < 0 := by omega
          go_wp2_with (first | (at_builtin; refine wpList_append_own _ rfl _ _ 28 rfl W2.heap.size 70 i0 (.int .u32 0) 1 4 Tryd.underlying28 hi hz0 hz1 hz2 rfl (by omega) (.slice A' k c') k (u32s zs) rfl (hown.alloc _) ⟨wr.heap.size, 0, none⟩ 1 1 [.int .u32 ((x : Int) - c - y + 1000000000)] rfl rfl (cell_one_new _ _ _) (ints_oneCell .u32 [_]) (by unfold maxLen; omega) (by omega) (by simp; omega) ?_) | fail)
          intro v2 w4 hown2 hgrow2 _
          have hb2 : Ext W2 w4 := (hx.alloc hx.size _).grown hgrow2 (by have := hx.size; simp; omega) (fun b hb => (hown.lt b hb).1)
          clear hgrow2 hown
          obtain ⟨A3, c3, rfl, _, _⟩ := own_slice hown2
          go_wp2
          go_roundw
          case rel => exact ⟨k + 1, 1, _, A3, c3, by omega, by go_num, rfl, rfl, by rw [← u32s_snoc, show ((x + 1000000000 - c - y : Nat) : Int) = (x : Int) - c - y + 1000000000 from by omega]; exact hown2, hb2, hs1.out hd⟩
          case measure => simp [intOf]; try omega
        · have hd1 : 0 ≤ (x : Int) - c - y := by omega
          go_wp2_with (first | (at_builtin; refine wpList_append_own _ rfl _ _ 28 rfl W2.heap.size 70 i0 (.int .u32 0) 1 4 Tryd.underlying28 hi hz0 hz1 hz2 rfl (by omega) (.slice A' k c') k (u32s zs) rfl (hown.alloc _) ⟨wr.heap.size, 0, none⟩ 1 1 [.int .u32 ((x : Int) - c - y)] rfl rfl (cell_one_new _ _ _) (ints_oneCell .u32 [_]) (by unfold maxLen; omega) (by omega) (by simp; omega) ?_) | fail)
          intro v2 w4 hown2 hgrow2 _
          have hb2 : Ext W2 w4 := (hx.alloc hx.size _).grown hgrow2 (by have := hx.size; simp; omega) (fun b hb => (hown.lt b hb).1)
          clear hgrow2 hown
          obtain ⟨A3, c3, rfl, _, _⟩ := own_slice hown2
          go_wp2
          go_roundw
          case rel => exact ⟨k + 1, 0, _, A3, c3, by omega, by go_num, rfl, rfl, by rw [← u32s_snoc, show ((x - c - y : Nat) : Int) = (x : Int) - c - y from by omega]; exact hown2, hb2, hs2.out (by omega)⟩
          case measure => simp [intOf]; try omega
      · have hy0 : ys.getD k 0 = 0 := by simp [List.getD, List.getElem?_eq_none (show ys.length ≤ k by omega)]
        rw [hy0] at hs1 hs2
        clear hy0 hyk
        by_cases hd : x < c
        · have hd1 : (x : Int) - c < 0 := by omega
          go_wp2_with (first | (at_builtin; refine wpList_append_own _ rfl _ _ 28 rfl W2.heap.size 70 i0 (.int .u32 0) 1 4 Tryd.underlying28 hi hz0 hz1 hz2 rfl (by omega) (.slice A' k c') k (u32s zs) rfl (hown.alloc _) ⟨wr.heap.size, 0, none⟩ 1 1 [.int .u32 ((x : Int) - c + 1000000000)] rfl rfl (cell_one_new _ _ _) (ints_oneCell .u32 [_]) (by unfold maxLen; omega) (by omega) (by simp; omega) ?_) | fail)
          intro v2 w4 hown2 hgrow2 _
          have hb2 : Ext W2 w4 := (hx.alloc hx.size _).grown hgrow2 (by have := hx.size; simp; omega) (fun b hb => (hown.lt b hb).1)
          clear hgrow2 hown
          obtain ⟨A3, c3, rfl, _, _⟩ := own_slice hown2
          go_wp2
          go_roundw
          case rel => exact ⟨k + 1, 1, _, A3, c3, by omega, by go_num, rfl, rfl, by rw [← u32s_snoc, show ((x + 1000000000 - c - 0 : Nat) : Int) = (x : Int) - c + 1000000000 from by omega]; exact hown2, hb2, hs1.out (by omega)⟩
          case measure => simp [intOf]; try omega
        · have hd1 : 0 ≤ (x : Int) - c := by omega
          go_wp2_with (first | (at_builtin; refine wpList_append_own _ rfl _ _ 28 rfl W2.heap.size 70 i0 (.int .u32 0) 1 4 Tryd.underlying28 hi hz0 hz1 hz2 rfl (by omega) (.slice A' k c') k (u32s zs) rfl (hown.alloc _) ⟨wr.heap.size, 0, none⟩ 1 1 [.int .u32 ((x : Int) - c)] rfl rfl (cell_one_new _ _ _) (ints_oneCell .u32 [_]) (by unfold maxLen; omega) (by omega) (by simp; omega) ?_) | fail)
          intro v2 w4 hown2 hgrow2 _
          have hb2 : Ext W2 w4 := (hx.alloc hx.size _).grown hgrow2 (by have := hx.size; simp; omega) (fun b hb => (hown.lt b hb).1)
          clear hgrow2 hown
          obtain ⟨A3, c3, rfl, _, _⟩ := own_slice hown2
          go_wp2
          go_roundw
          case rel => exact ⟨k + 1, 0, _, A3, c3, by omega, by go_num, rfl, rfl, by rw [← u32s_snoc, show ((x - c - 0 : Nat) : Int) = (x : Int) - c from by omega]; exact hown2, hb2, hs2.out (by omega)⟩
          case measure => simp [intOf]; try omega
    · obtain rfl : k = xs.length := by omega
      have hdone := hat.done hll (by rw [HVA.out, HVB.out]; exact hge)
      rw [HVA.out, HVB.out] at hdone
      have HN : NatV wr (.slice A' xs.length c') (a - b) := ⟨zs, U32s.of_row hown, fun z hz => by have := hat.digs z hz; omega, by rw [hat.len]; omega, hdone⟩
      have hEr := hE.trans hx
      clear hat hown hdone
      go_wp2_with fail
      refine (norm_n HN).mono ?_
      rintro e w5 ⟨A5, k5, c5, rfl, h5, x5, n5⟩
      obtain ⟨cz, fz⟩ : w5.cell? ⟨w.heap.size + 1 + 1, 0, none⟩ = some (.slice none 0 0) ∧ w5.frozen? ⟨w.heap.size + 1 + 1, 0, none⟩ = false := (HB.out.below (hx.trans x5)).cell 2 _ 0 _ rfl rfl
      go_wp2
      refine bodyPost_ret (v := .tuple #[.agg #[.slice A5 k5 c5], .int .i64 0]) (by simp [results, Tryd.results79, go_sem, World.cell?_setCell_same _ _ _ cz]) rfl ?_
      exact ⟨_, _, _, rfl, U32s.setNew h5 n5 (by show w.heap.size + 1 + 1 < _; omega) _, (hEr.trans x5).setCell (by show w.heap.size ≤ w.heap.size + 1 + 1; omega) _, n5.mono (by omega)⟩

end Go.Proofs.YtkjcbfaimonaoaaDoor
