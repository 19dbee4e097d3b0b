/- ref01: Add, Sub, Mul. ref01: Mul. ref01: DivMod, the small cases. -/
import Derived.Test.YtmfigiifflljpaaRefOps
set_option linter.unusedVariables false
set_option linter.unusedSimpArgs false
set_option maxRecDepth 100000
namespace Go.Proofs.Ytmfigiifflljpaa
open Go.RowKit Num

/-- What 'Add' has done behind k rounds. -/
structure AddAt (xs ys : List Nat) (k : Nat) (zs : List Nat) : Prop where
  len : zs.length = k
  small : ∀ z ∈ zs, z < 4294967296
  eq : val zs = val (xs.take k) + val (ys.take k)
theorem AddAt.start (xs ys : List Nat) : AddAt xs ys 0 [] := ⟨rfl, by simp, by simp [val]⟩
theorem AddAt.step {xs ys zs : List Nat} {k : Nat} (h : AddAt xs ys k zs) (hx : Digs xs) (hy : Digs ys) : AddAt xs ys (k + 1) (zs ++ [xs.getD k 0 + ys.getD k 0]) := by
  obtain ⟨h1, h2, h3⟩ := h
  have h5 := hx.getD k
  have h6 := hy.getD k
  refine ⟨by simp [h1], ?_, ?_⟩
  · intro z hz
    rcases List.mem_append.1 hz with hz | hz
    · exact h2 z hz
    · rw [List.mem_singleton] at hz; omega
  · rw [getD_take_succ, getD_take_succ, val_snoc, h1, h3, Nat.mul_add]; omega
theorem AddAt.done {xs ys zs : List Nat} {k : Nat} (h : AddAt xs ys k zs) (h1 : xs.length ≤ k) (h2 : ys.length ≤ k) : val zs = val xs + val ys := by
  rw [h.eq, List.take_of_length_le h1, List.take_of_length_le h2]

set_option maxHeartbeats 2000000 in
theorem radd_n {x y : Value} {a b : Nat} {w : World} (hx : NatV w x a) (hy : NatV w y b) (ha : (limbsOf a).length ≤ 1099511627776) (hb : (limbsOf b).length ≤ 1099511627776) :
    Calls Try.prog 60 #[.agg #[x], .agg #[y]] w (GivesN w (a + b)) := by
  obtain ⟨i0, hi, hz0, hz1, hz2⟩ := info_parts info_u32
  go_enter Try.func60, Try.ntmps60
  go_upto_region 1 with (fail)
  have hB0 : Boxes w (((w.alloc (.cells #[x] 32)).alloc (.cells #[y] 32)).alloc (.cells #[.slice none 0 0] 32)) [[x], [y], [.slice none 0 0]] := (((Boxes.nil_ w).alloc rfl [x] 32).alloc (by simp) [y] 32).alloc (by simp) [.slice none 0 0] 32
  generalize ((w.alloc (.cells #[x] 32)).alloc (.cells #[y] 32)).alloc (.cells #[.slice none 0 0] 32) = W0 at *
  have hx0 : NatV W0 x a := hx.below hB0.ext
  have HB0 := Lib.hid hB0
  obtain ⟨cx0, fx0⟩ : W0.cell? ⟨w.heap.size, 0, none⟩ = some x ∧ W0.frozen? ⟨w.heap.size, 0, none⟩ = false := hB0.cell 0 _ 0 _ rfl rfl
  clear hB0
  go_wp2_with fail
  refine (norm_n hx0).mono ?_
  intro e w1 hg
  obtain ⟨A1, c1, rfl, h1, x1, n1⟩ := hg.form
  clear hg
  have hB1 := HB0.out.below x1
  obtain ⟨cx1, fx1⟩ : w1.cell? ⟨w.heap.size, 0, none⟩ = some x ∧ w1.frozen? ⟨w.heap.size, 0, none⟩ = false := hB1.cell 0 _ 0 _ rfl rfl
  obtain ⟨cy1, fy1⟩ : w1.cell? ⟨w.heap.size + 1, 0, none⟩ = some y ∧ w1.frozen? ⟨w.heap.size + 1, 0, none⟩ = false := hB1.cell 1 _ 0 _ rfl rfl
  have HB1 := Lib.hid hB1
  clear hB1
  go_wp2_with fail
  have hB2 : Boxes w (w1.setCell ⟨w.heap.size, 0, none⟩ (.slice A1 (limbsOf a).length c1)) [[.slice A1 (limbsOf a).length c1], [y], [.slice none 0 0]] := HB1.out.set 0 0 _
  have hs0 : w.heap.size + 3 ≤ W0.heap.size := HB0.out.size
  have h1' := U32s.setNew (p := ⟨w.heap.size, 0, none⟩) h1 n1 (by show w.heap.size < _; omega) (.slice A1 (limbsOf a).length c1)
  have hs1 : w.heap.size + 3 ≤ (w1.setCell ⟨w.heap.size, 0, none⟩ (.slice A1 (limbsOf a).length c1)).heap.size := hB2.size
  clear cx0 fx0 cx1 fx1 cy1 fy1 HB1
  generalize w1.setCell ⟨w.heap.size, 0, none⟩ (.slice A1 (limbsOf a).length c1) = W1 at *
  obtain ⟨cy2, fy2⟩ : W1.cell? ⟨w.heap.size + 1, 0, none⟩ = some y ∧ W1.frozen? ⟨w.heap.size + 1, 0, none⟩ = false := hB2.cell 1 _ 0 _ rfl rfl
  have hy1 : NatV W1 y b := hy.below hB2.ext
  have HB2 := Lib.hid hB2
  clear hB2
  refine (norm_n hy1).mono ?_
  intro e w3 hg
  obtain ⟨A2, c2, rfl, h2, x3, n2⟩ := hg.form
  clear hg
  have hB3 := HB2.out.below x3
  obtain ⟨cy3, fy3⟩ : w3.cell? ⟨w.heap.size + 1, 0, none⟩ = some y ∧ w3.frozen? ⟨w.heap.size + 1, 0, none⟩ = false := hB3.cell 1 _ 0 _ rfl rfl
  have hB4 : Boxes w (w3.setCell ⟨w.heap.size + 1, 0, none⟩ (.slice A2 (limbsOf b).length c2)) [[.slice A1 (limbsOf a).length c1], [.slice A2 (limbsOf b).length c2], [.slice none 0 0]] := hB3.set 1 0 _
  have n1' : New (w.heap.size + 3) (.slice A1 (limbsOf a).length c1) := n1.mono hs0
  have n2' : New (w.heap.size + 3) (.slice A2 (limbsOf b).length c2) := n2.mono hs1
  have h1'' := U32s.setNew (p := ⟨w.heap.size + 1, 0, none⟩) (CanV.below h1' x3) n1' (by show w.heap.size + 1 < _; omega) (.slice A2 (limbsOf b).length c2)
  have h2'' := U32s.setNew (p := ⟨w.heap.size + 1, 0, none⟩) h2 n2' (by show w.heap.size + 1 < _; omega) (.slice A2 (limbsOf b).length c2)
  clear hB3 cy2 fy2 h1' h2 h1
  go_upto_region 3 with (fail)
  generalize w3.setCell ⟨w.heap.size + 1, 0, none⟩ (.slice A2 (limbsOf b).length c2) = W2 at *
  have h1' : CanV W2 (.slice A1 (limbsOf a).length c1) a := h1''
  have h2' : CanV W2 (.slice A2 (limbsOf b).length c2) b := h2''
  clear h1'' h2'' n1 n2 hs0 hs1 x1 x3 cy3 fy3 hx0 hy1 HB0 HB2 hx hy
  clear w3 W1 w1 W0
  have hE : Ext w W2 := hB4.ext
  have hs2 : w.heap.size + 1 + 1 + 1 ≤ W2.heap.size := hB4.size
  have HB := Lib.hid hB4
  clear hB4
  obtain ⟨A, cap, e, q2, q3, q4⟩ := h1'
  injection e with e1 e2 e3
  subst e1 e3
  obtain ⟨B, cap', e, k2, k3, k4⟩ := h2'
  injection e with e1 e2' e3
  subst e1 e3
  clear e2 e2'
  have da := limbsOf_digs a
  have db := limbsOf_digs b
  have va := val_limbsOf a
  have vb := val_limbsOf b
  generalize limbsOf a = xs at *
  generalize limbsOf b = ys at *
  have HVA := Lib.hid va
  have HVB := Lib.hid vb
  clear va vb
  go_wp2
  go_loopw [5, 6] (fun v iv wr => ∃ (k : Nat) (zs : List Nat) (A' : Option Addr) (c' : Nat), iv = .int .i64 k ∧ v = .slice A' k c' ∧ wr.ownsRow W2.heap.size 76 1 (.slice A' k c') k (u32s zs) ∧ Ext W2 wr ∧ AddAt xs ys k zs ∧ (k ≤ xs.length ∨ k ≤ ys.length))
    (fun _ iv _ => xs.length + ys.length - (intOf iv).toNat)
  case atStart => exact ⟨0, [], none, 0, rfl, rfl, World.ownsRow_nil _ _ _ _, Below.refl _ _, AddAt.start xs ys, .inl (Nat.zero_le _)⟩
  case round =>
    obtain ⟨k, zs, A', c', rfl, rfl, hown, hx, hat, hle⟩ := hrel
    have hBr := HB.out.below hx
    have cxr : wr.cell? ⟨w.heap.size, 0, none⟩ = some (.slice A1 xs.length c1) := (hBr.cell 0 _ 0 _ rfl rfl).1
    have cyr : wr.cell? ⟨w.heap.size + 1, 0, none⟩ = some (.slice A2 ys.length c2) := (hBr.cell 1 _ 0 _ rfl rfl).1
    clear hBr
    have hWs := hx.size
    have hxk := da.getD k
    have hyk := db.getD k
    by_cases h1 : k < xs.length
    · have hst := Lib.hid (hat.step da db)
      obtain ⟨ad, u, rfl, hb1, hu, hcl⟩ := (q4.below hx).at_ (k := k) h1
      rw [u32s_get _ _ h1] at hu
      cases hu
      clear hat
      generalize xs.getD k 0 = x at *
      by_cases h2 : k < ys.length
      · obtain ⟨bd, u, rfl, hb2, hu, hcl2⟩ := (k4.below hx).at_ (k := k) h2
        rw [u32s_get _ _ h2] at hu
        cases hu
        generalize ys.getD k 0 = y at *
        go_wp2_with (first | (at_builtin; refine wpList_append_own _ rfl _ _ 30 rfl W2.heap.size 76 i0 (.int .u32 0) 1 4 Try.underlying30 hi hz0 hz1 hz2 rfl (by omega) (.slice A' k c') k (u32s zs) rfl (hown.alloc _) ⟨wr.heap.size, 0, none⟩ 1 1 [.int .u32 ((x : Int) + y)] rfl rfl (cell_one_new _ _ _) (ints_oneCell .u32 [_]) (by unfold maxLen; omega) (by omega) (by simp; omega) ?_) | fail)
        intro v2 w4 hown2 hgrow2 _
        have hb2 : Ext W2 w4 := (hx.alloc hx.size _).grown hgrow2 (by have := hx.size; simp; omega) (fun b hb => (hown.lt b hb).1)
        clear hgrow2 hown
        obtain ⟨A3, c3, rfl, _, _⟩ := own_slice hown2
        go_wp2
        go_roundw
        case rel => exact ⟨k + 1, _, A3, c3, by go_num, rfl, by rw [← u32s_snoc]; exact hown2, hb2, hst.out, by omega⟩
        case measure => simp [intOf]; try omega
      · have hy0 : ys.getD k 0 = 0 := by simp [List.getD, List.getElem?_eq_none (show ys.length ≤ k by omega)]
        rw [hy0] at hst
        clear hy0 hyk
        go_wp2_with (first | (at_builtin; refine wpList_append_own _ rfl _ _ 30 rfl W2.heap.size 76 i0 (.int .u32 0) 1 4 Try.underlying30 hi hz0 hz1 hz2 rfl (by omega) (.slice A' k c') k (u32s zs) rfl (hown.alloc _) ⟨wr.heap.size, 0, none⟩ 1 1 [.int .u32 (x : Int)] rfl rfl (cell_one_new _ _ _) (ints_oneCell .u32 [_]) (by unfold maxLen; omega) (by omega) (by simp; omega) ?_) | fail)
        intro v2 w4 hown2 hgrow2 _
        have hb2 : Ext W2 w4 := (hx.alloc hx.size _).grown hgrow2 (by have := hx.size; simp; omega) (fun b hb => (hown.lt b hb).1)
        clear hgrow2 hown
        obtain ⟨A3, c3, rfl, _, _⟩ := own_slice hown2
        go_wp2
        go_roundw
        case rel => exact ⟨k + 1, _, A3, c3, by go_num, rfl, by rw [← u32s_snoc]; exact hown2, hb2, hst.out, by omega⟩
        case measure => simp [intOf]; try omega
    · by_cases h2 : k < ys.length
      · have hst := hat.step da db
        have hx0 : xs.getD k 0 = 0 := by simp [List.getD, List.getElem?_eq_none (show xs.length ≤ k by omega)]
        rw [hx0, Nat.zero_add] at hst
        have HST := Lib.hid hst
        obtain ⟨bd, u, rfl, hb2, hu, hcl2⟩ := (k4.below hx).at_ (k := k) h2
        rw [u32s_get _ _ h2] at hu
        cases hu
        clear hat hst hx0 hxk
        generalize ys.getD k 0 = y at *
        go_wp2_with (first | (at_builtin; refine wpList_append_own _ rfl _ _ 30 rfl W2.heap.size 76 i0 (.int .u32 0) 1 4 Try.underlying30 hi hz0 hz1 hz2 rfl (by omega) (.slice A' k c') k (u32s zs) rfl (hown.alloc _) ⟨wr.heap.size, 0, none⟩ 1 1 [.int .u32 (y : Int)] rfl rfl (cell_one_new _ _ _) (ints_oneCell .u32 [_]) (by unfold maxLen; omega) (by omega) (by simp; omega) ?_) | fail)
        intro v2 w4 hown2 hgrow2 _
        have hb2 : Ext W2 w4 := (hx.alloc hx.size _).grown hgrow2 (by have := hx.size; simp; omega) (fun b hb => (hown.lt b hb).1)
        clear hgrow2 hown
        obtain ⟨A3, c3, rfl, _, _⟩ := own_slice hown2
        go_wp2
        go_roundw
        case rel => exact ⟨k + 1, _, A3, c3, by go_num, rfl, by rw [← u32s_snoc]; exact hown2, hb2, HST.out, by omega⟩
        case measure => simp [intOf]; try omega
      · have hdone := hat.done (by omega) (by omega)
        rw [HVA.out, HVB.out] at hdone
        have HN : NatV wr (.slice A' k c') (a + b) := ⟨zs, U32s.of_row hown, hat.small, by rw [hat.len]; omega, hdone⟩
        have hEr := hE.trans hx
        clear hat hown hdone
        go_wp2_with fail
        refine (norm_n HN).mono ?_
        rintro e w5 ⟨A5, k5, c5, rfl, h5, x5, n5⟩
        obtain ⟨cz, fz⟩ : w5.cell? ⟨w.heap.size + 1 + 1, 0, none⟩ = some (.slice none 0 0) ∧ w5.frozen? ⟨w.heap.size + 1 + 1, 0, none⟩ = false := (HB.out.below (hx.trans x5)).cell 2 _ 0 _ rfl rfl
        go_wp2
        refine bodyPost_ret (v := .agg #[.slice A5 k5 c5]) (by simp [results, Try.results60, go_sem, World.cell?_setCell_same _ _ _ cz]) rfl ?_
        exact ⟨_, _, _, rfl, U32s.setNew h5 n5 (by show w.heap.size + 1 + 1 < _; omega) _, (hEr.trans x5).setCell (by show w.heap.size ≤ w.heap.size + 1 + 1; omega) _, n5.mono (by omega)⟩

set_option maxHeartbeats 2000000 in
theorem rsub_lt {x y : Value} {a b : Nat} {w : World} (hx : NatV w x a) (hy : NatV w y b) (hlt : a < b) :
    Calls Try.prog 62 #[.agg #[x], .agg #[y]] w (fun e w' => e = .returned (.tuple #[.agg #[.slice none 0 0], .int .i64 2]) ∧ Ext w w') := by
  have hc : cmpN a b < 0 := cmpN_neg.2 hlt
  go_enter Try.func62, Try.ntmps62
  go_upto_region 1 with (fail)
  have hB0 : Boxes w (((w.alloc (.cells #[x] 32)).alloc (.cells #[y] 32)).alloc (.cells #[.slice none 0 0] 32)) [[x], [y], [.slice none 0 0]] := (((Boxes.nil_ w).alloc rfl [x] 32).alloc (by simp) [y] 32).alloc (by simp) [.slice none 0 0] 32
  generalize ((w.alloc (.cells #[x] 32)).alloc (.cells #[y] 32)).alloc (.cells #[.slice none 0 0] 32) = W0 at *
  have hx0 : NatV W0 x a := hx.below hB0.ext
  obtain ⟨cx0, fx0⟩ : W0.cell? ⟨w.heap.size, 0, none⟩ = some x ∧ W0.frozen? ⟨w.heap.size, 0, none⟩ = false := hB0.cell 0 _ 0 _ rfl rfl
  obtain ⟨cy0, fy0⟩ : W0.cell? ⟨w.heap.size + 1, 0, none⟩ = some y ∧ W0.frozen? ⟨w.heap.size + 1, 0, none⟩ = false := hB0.cell 1 _ 0 _ rfl rfl
  have hy0 : NatV W0 y b := hy.below hB0.ext
  have HB := Lib.hid hB0
  clear hB0
  go_wp2_with fail
  refine (rcmp_n hx0 hy0).mono ?_
  rintro e w1 ⟨rfl, x1⟩
  obtain ⟨cz, fz⟩ : w1.cell? ⟨w.heap.size + 1 + 1, 0, none⟩ = some (.slice none 0 0) ∧ w1.frozen? ⟨w.heap.size + 1 + 1, 0, none⟩ = false := (HB.out.below x1).cell 2 _ 0 _ rfl rfl
  generalize cmpN a b = c at *
  go_wp2
  refine bodyPost_ret (v := .tuple #[.agg #[.slice none 0 0], .int .i64 2]) (by simp [results, Try.results62, go_sem, World.cell?_setCell_same _ _ _ cz]) rfl ?_
  exact ⟨rfl, (HB.out.ext.trans x1).setCell (by show w.heap.size ≤ w.heap.size + 1 + 1; omega) _⟩

set_option maxHeartbeats 4000000 in
theorem rsub_ge {x y : Value} {a b : Nat} {w : World} (hx : NatV w x a) (hy : NatV w y b) (hge : b ≤ a) (ha : (limbsOf a).length ≤ 1099511627776) :
    Calls Try.prog 62 #[.agg #[x], .agg #[y]] w (fun e w' => ∃ A k c, e = .returned (.tuple #[.agg #[.slice A k c], .int .i64 0]) ∧ CanV w' (.slice A k c) (a - b) ∧ Ext w w' ∧ New w.heap.size (.slice A k c)) := by
  have hc : 0 ≤ cmpN a b := by have := @cmpN_neg a b; omega
  have hll := limbsOf_length_mono hge
  obtain ⟨i0, hi, hz0, hz1, hz2⟩ := info_parts info_u32
  go_enter Try.func62, Try.ntmps62
  go_upto_region 1 with (fail)
  have hV0 : Boxes w (((w.alloc (.cells #[x] 32)).alloc (.cells #[y] 32)).alloc (.cells #[.slice none 0 0] 32)) [[x], [y], [.slice none 0 0]] := (((Boxes.nil_ w).alloc rfl [x] 32).alloc (by simp) [y] 32).alloc (by simp) [.slice none 0 0] 32
  generalize ((w.alloc (.cells #[x] 32)).alloc (.cells #[y] 32)).alloc (.cells #[.slice none 0 0] 32) = V0 at *
  have hv0 : NatV V0 x a := hx.below hV0.ext
  obtain ⟨vx0, gx0⟩ : V0.cell? ⟨w.heap.size, 0, none⟩ = some x ∧ V0.frozen? ⟨w.heap.size, 0, none⟩ = false := hV0.cell 0 _ 0 _ rfl rfl
  obtain ⟨vy0, gy0⟩ : V0.cell? ⟨w.heap.size + 1, 0, none⟩ = some y ∧ V0.frozen? ⟨w.heap.size + 1, 0, none⟩ = false := hV0.cell 1 _ 0 _ rfl rfl
  have hy0 : NatV V0 y b := hy.below hV0.ext
  go_wp2_with fail
  refine (rcmp_n hv0 hy0).mono ?_
  rintro e W0 ⟨rfl, xq⟩
  have hB0 := hV0.below xq
  have hx0 := hv0.below xq
  clear vx0 gx0 vy0 gy0 hV0 hv0 hy0 xq
  clear V0
  generalize cmpN a b = c at *
  go_upto_region 3 with (fail)
  have HB0 := Lib.hid hB0
  obtain ⟨cx0, fx0⟩ : W0.cell? ⟨w.heap.size, 0, none⟩ = some x ∧ W0.frozen? ⟨w.heap.size, 0, none⟩ = false := hB0.cell 0 _ 0 _ rfl rfl
  clear hB0
  go_wp2_with fail
  refine (norm_n hx0).mono ?_
  intro e w1 hg
  obtain ⟨A1, c1, rfl, h1, x1, n1⟩ := hg.form
  clear hg
  have hB1 := HB0.out.below x1
  obtain ⟨cx1, fx1⟩ : w1.cell? ⟨w.heap.size, 0, none⟩ = some x ∧ w1.frozen? ⟨w.heap.size, 0, none⟩ = false := hB1.cell 0 _ 0 _ rfl rfl
  obtain ⟨cy1, fy1⟩ : w1.cell? ⟨w.heap.size + 1, 0, none⟩ = some y ∧ w1.frozen? ⟨w.heap.size + 1, 0, none⟩ = false := hB1.cell 1 _ 0 _ rfl rfl
  have HB1 := Lib.hid hB1
  clear hB1
  go_wp2_with fail
  have hB2 : Boxes w (w1.setCell ⟨w.heap.size, 0, none⟩ (.slice A1 (limbsOf a).length c1)) [[.slice A1 (limbsOf a).length c1], [y], [.slice none 0 0]] := HB1.out.set 0 0 _
  have hs0 : w.heap.size + 3 ≤ W0.heap.size := HB0.out.size
  have h1' := U32s.setNew (p := ⟨w.heap.size, 0, none⟩) h1 n1 (by show w.heap.size < _; omega) (.slice A1 (limbsOf a).length c1)
  have hs1 : w.heap.size + 3 ≤ (w1.setCell ⟨w.heap.size, 0, none⟩ (.slice A1 (limbsOf a).length c1)).heap.size := hB2.size
  clear cx0 fx0 cx1 fx1 cy1 fy1 HB1
  generalize w1.setCell ⟨w.heap.size, 0, none⟩ (.slice A1 (limbsOf a).length c1) = W1 at *
  obtain ⟨cy2, fy2⟩ : W1.cell? ⟨w.heap.size + 1, 0, none⟩ = some y ∧ W1.frozen? ⟨w.heap.size + 1, 0, none⟩ = false := hB2.cell 1 _ 0 _ rfl rfl
  have hy1 : NatV W1 y b := hy.below hB2.ext
  have HB2 := Lib.hid hB2
  clear hB2
  refine (norm_n hy1).mono ?_
  intro e w3 hg
  obtain ⟨A2, c2, rfl, h2, x3, n2⟩ := hg.form
  clear hg
  have hB3 := HB2.out.below x3
  obtain ⟨cy3, fy3⟩ : w3.cell? ⟨w.heap.size + 1, 0, none⟩ = some y ∧ w3.frozen? ⟨w.heap.size + 1, 0, none⟩ = false := hB3.cell 1 _ 0 _ rfl rfl
  have hB4 : Boxes w (w3.setCell ⟨w.heap.size + 1, 0, none⟩ (.slice A2 (limbsOf b).length c2)) [[.slice A1 (limbsOf a).length c1], [.slice A2 (limbsOf b).length c2], [.slice none 0 0]] := hB3.set 1 0 _
  have n1' : New (w.heap.size + 3) (.slice A1 (limbsOf a).length c1) := n1.mono hs0
  have n2' : New (w.heap.size + 3) (.slice A2 (limbsOf b).length c2) := n2.mono hs1
  have h1'' := U32s.setNew (p := ⟨w.heap.size + 1, 0, none⟩) (CanV.below h1' x3) n1' (by show w.heap.size + 1 < _; omega) (.slice A2 (limbsOf b).length c2)
  have h2'' := U32s.setNew (p := ⟨w.heap.size + 1, 0, none⟩) h2 n2' (by show w.heap.size + 1 < _; omega) (.slice A2 (limbsOf b).length c2)
  clear hB3 cy2 fy2 h1' h2 h1
  go_upto_region 5 with (fail)
  generalize w3.setCell ⟨w.heap.size + 1, 0, none⟩ (.slice A2 (limbsOf b).length c2) = W2 at *
  have h1' : CanV W2 (.slice A1 (limbsOf a).length c1) a := h1''
  have h2' : CanV W2 (.slice A2 (limbsOf b).length c2) b := h2''
  clear h1'' h2'' n1 n2 hs0 hs1 x1 x3 cy3 fy3 hx0 hy1 HB0 HB2 hx hy
  clear w3 W1 w1 W0
  have hE : Ext w W2 := hB4.ext
  have hs2 : w.heap.size + 1 + 1 + 1 ≤ W2.heap.size := hB4.size
  have HB := Lib.hid hB4
  clear hB4
  obtain ⟨A, cap, e, q2, q3, q4⟩ := h1'
  injection e with e1 e2 e3
  subst e1 e3
  obtain ⟨B, cap', e, k2, k3, k4⟩ := h2'
  injection e with e1 e2' e3
  subst e1 e3
  clear e2 e2'
  have da := limbsOf_digs a
  have db := limbsOf_digs b
  have va := val_limbsOf a
  have vb := val_limbsOf b
  generalize limbsOf a = xs at *
  generalize limbsOf b = ys at *
  have HVA := Lib.hid va
  have HVB := Lib.hid vb
  clear va vb
  go_wp2
  go_loopw [6, 7, 8] (fun v cv iv wr => ∃ (k c : Nat) (zs : List Nat) (A' : Option Addr) (c' : Nat), k ≤ xs.length ∧ iv = .int .i64 k ∧ v = .slice A' k c' ∧ cv = .int .i64 c ∧ wr.ownsRow W2.heap.size 76 1 (.slice A' k c') k (u32s zs) ∧ Ext W2 wr ∧ MinusAt xs ys k zs c)
    (fun _ _ iv _ => xs.length - (intOf iv).toNat)
  case atStart => exact ⟨0, 0, [], none, 0, Nat.zero_le _, rfl, rfl, rfl, World.ownsRow_nil _ _ _ _, Below.refl _ _, MinusAt.zero xs ys⟩
  case round =>
    obtain ⟨k, c, zs, A', c', hk, rfl, rfl, rfl, hown, hx, hat⟩ := hrel
    have hBr := HB.out.below hx
    have cxr : wr.cell? ⟨w.heap.size, 0, none⟩ = some (.slice A1 xs.length c1) := (hBr.cell 0 _ 0 _ rfl rfl).1
    have cyr : wr.cell? ⟨w.heap.size + 1, 0, none⟩ = some (.slice A2 ys.length c2) := (hBr.cell 1 _ 0 _ rfl rfl).1
    clear hBr
    have hWs := hx.size
    have hsm := hat.small
    by_cases h1 : k < xs.length
    · have hxk := da.getD k
      have hyk := db.getD k
      have hs1 := Lib.hid (hat.low da db)
      have hs2 := Lib.hid (hat.high da db)
      obtain ⟨ad, u, rfl, hb1, hu, hcl⟩ := (q4.below hx).at_ (k := k) h1
      rw [u32s_get _ _ h1] at hu
      cases hu
      clear hat
      generalize xs.getD k 0 = x at *
      by_cases h2 : k < ys.length
      · obtain ⟨bd, u, rfl, hb2, hu, hcl2⟩ := (k4.below hx).at_ (k := k) h2
        rw [u32s_get _ _ h2] at hu
        cases hu
        generalize ys.getD k 0 = y at *
        by_cases hd : x < c + y
        · have hd1 : (x : Int) - c - y < 0 := by omega
          go_wp2_with (first | (at_builtin; refine wpList_append_own _ rfl _ _ 30 rfl W2.heap.size 76 i0 (.int .u32 0) 1 4 Try.underlying30 hi hz0 hz1 hz2 rfl (by omega) (.slice A' k c') k (u32s zs) rfl (hown.alloc _) ⟨wr.heap.size, 0, none⟩ 1 1 [.int .u32 ((x : Int) - c - y + 1000000000)] rfl rfl (cell_one_new _ _ _) (ints_oneCell .u32 [_]) (by unfold maxLen; omega) (by omega) (by simp; omega) ?_) | fail)
          intro v2 w4 hown2 hgrow2 _
          have hb2 : Ext W2 w4 := (hx.alloc hx.size _).grown hgrow2 (by have := hx.size; simp; omega) (fun b hb => (hown.lt b hb).1)
          clear hgrow2 hown
          obtain ⟨A3, c3, rfl, _, _⟩ := own_slice hown2
          go_wp2
          go_roundw
          case rel => exact ⟨k + 1, 1, _, A3, c3, by omega, by go_num, rfl, rfl, by rw [← u32s_snoc, show ((x + 1000000000 - c - y : Nat) : Int) = (x : Int) - c - y + 1000000000 from by omega]; exact hown2, hb2, hs1.out hd⟩
          case measure => simp [intOf]; try omega
        · have hd1 : 0 ≤ (x : Int) - c - y := by omega
          go_wp2_with (first | (at_builtin; refine wpList_append_own _ rfl _ _ 30 rfl W2.heap.size 76 i0 (.int .u32 0) 1 4 Try.underlying30 hi hz0 hz1 hz2 rfl (by omega) (.slice A' k c') k (u32s zs) rfl (hown.alloc _) ⟨wr.heap.size, 0, none⟩ 1 1 [.int .u32 ((x : Int) - c - y)] rfl rfl (cell_one_new _ _ _) (ints_oneCell .u32 [_]) (by unfold maxLen; omega) (by omega) (by simp; omega) ?_) | fail)
          intro v2 w4 hown2 hgrow2 _
          have hb2 : Ext W2 w4 := (hx.alloc hx.size _).grown hgrow2 (by have := hx.size; simp; omega) (fun b hb => (hown.lt b hb).1)
          clear hgrow2 hown
          obtain ⟨A3, c3, rfl, _, _⟩ := own_slice hown2
          go_wp2
          go_roundw
          case rel => exact ⟨k + 1, 0, _, A3, c3, by omega, by go_num, rfl, rfl, by rw [← u32s_snoc, show ((x - c - y : Nat) : Int) = (x : Int) - c - y from by omega]; exact hown2, hb2, hs2.out (by omega)⟩
          case measure => simp [intOf]; try omega
      · have hy0 : ys.getD k 0 = 0 := by simp [List.getD, List.getElem?_eq_none (show ys.length ≤ k by omega)]
        rw [hy0] at hs1 hs2
        clear hy0 hyk
        by_cases hd : x < c
        · have hd1 : (x : Int) - c < 0 := by omega
          go_wp2_with (first | (at_builtin; refine wpList_append_own _ rfl _ _ 30 rfl W2.heap.size 76 i0 (.int .u32 0) 1 4 Try.underlying30 hi hz0 hz1 hz2 rfl (by omega) (.slice A' k c') k (u32s zs) rfl (hown.alloc _) ⟨wr.heap.size, 0, none⟩ 1 1 [.int .u32 ((x : Int) - c + 1000000000)] rfl rfl (cell_one_new _ _ _) (ints_oneCell .u32 [_]) (by unfold maxLen; omega) (by omega) (by simp; omega) ?_) | fail)
          intro v2 w4 hown2 hgrow2 _
          have hb2 : Ext W2 w4 := (hx.alloc hx.size _).grown hgrow2 (by have := hx.size; simp; omega) (fun b hb => (hown.lt b hb).1)
          clear hgrow2 hown
          obtain ⟨A3, c3, rfl, _, _⟩ := own_slice hown2
          go_wp2
          go_roundw
          case rel => exact ⟨k + 1, 1, _, A3, c3, by omega, by go_num, rfl, rfl, by rw [← u32s_snoc, show ((x + 1000000000 - c - 0 : Nat) : Int) = (x : Int) - c + 1000000000 from by omega]; exact hown2, hb2, hs1.out (by omega)⟩
          case measure => simp [intOf]; try omega
        · have hd1 : 0 ≤ (x : Int) - c := by omega
          go_wp2_with (first | (at_builtin; refine wpList_append_own _ rfl _ _ 30 rfl W2.heap.size 76 i0 (.int .u32 0) 1 4 Try.underlying30 hi hz0 hz1 hz2 rfl (by omega) (.slice A' k c') k (u32s zs) rfl (hown.alloc _) ⟨wr.heap.size, 0, none⟩ 1 1 [.int .u32 ((x : Int) - c)] rfl rfl (cell_one_new _ _ _) (ints_oneCell .u32 [_]) (by unfold maxLen; omega) (by omega) (by simp; omega) ?_) | fail)
          intro v2 w4 hown2 hgrow2 _
          have hb2 : Ext W2 w4 := (hx.alloc hx.size _).grown hgrow2 (by have := hx.size; simp; omega) (fun b hb => (hown.lt b hb).1)
          clear hgrow2 hown
          obtain ⟨A3, c3, rfl, _, _⟩ := own_slice hown2
          go_wp2
          go_roundw
          case rel => exact ⟨k + 1, 0, _, A3, c3, by omega, by go_num, rfl, rfl, by rw [← u32s_snoc, show ((x - c - 0 : Nat) : Int) = (x : Int) - c from by omega]; exact hown2, hb2, hs2.out (by omega)⟩
          case measure => simp [intOf]; try omega
    · obtain rfl : k = xs.length := by omega
      have hdone := hat.done hll (by rw [HVA.out, HVB.out]; exact hge)
      rw [HVA.out, HVB.out] at hdone
      have HN : NatV wr (.slice A' xs.length c') (a - b) := ⟨zs, U32s.of_row hown, fun z hz => by have := hat.digs z hz; omega, by rw [hat.len]; omega, hdone⟩
      have hEr := hE.trans hx
      clear hat hown hdone
      go_wp2_with fail
      refine (norm_n HN).mono ?_
      rintro e w5 ⟨A5, k5, c5, rfl, h5, x5, n5⟩
      obtain ⟨cz, fz⟩ : w5.cell? ⟨w.heap.size + 1 + 1, 0, none⟩ = some (.slice none 0 0) ∧ w5.frozen? ⟨w.heap.size + 1 + 1, 0, none⟩ = false := (HB.out.below (hx.trans x5)).cell 2 _ 0 _ rfl rfl
      go_wp2
      refine bodyPost_ret (v := .tuple #[.agg #[.slice A5 k5 c5], .int .i64 0]) (by simp [results, Try.results62, go_sem, World.cell?_setCell_same _ _ _ cz]) rfl ?_
      exact ⟨_, _, _, rfl, U32s.setNew h5 n5 (by show w.heap.size + 1 + 1 < _; omega) _, (hEr.trans x5).setCell (by show w.heap.size ≤ w.heap.size + 1 + 1; omega) _, n5.mono (by omega)⟩

end Go.Proofs.Ytmfigiifflljpaa
namespace Go.Proofs.Ytmfigiifflljpaa
open Go.RowKit Num

/-- The rows of 'Mul' behind i rounds. -/
structure MulAt (xs ys : List Nat) (i : Nat) (os : List Nat) : Prop where
  len : os.length = xs.length + ys.length + 1
  digs : Digs os
  eq : val os = val (xs.take i) * val ys
  zero : ∀ p, i + ys.length ≤ p → os.getD p 0 = 0

theorem MulAt.start (xs ys : List Nat) : MulAt xs ys 0 (List.replicate (xs.length + ys.length + 1) 0) :=
  ⟨by simp, fun x hx => by simp at hx; omega, by simp [val, val_zeros], fun p _ => by simp [List.getD, List.getElem?_replicate]; split <;> rfl⟩

theorem MulAt.row {xs ys os : List Nat} {i x : Nat} (h : MulAt xs ys i os) : RowAt x ys os i 0 os 0 :=
  ⟨rfl, h.digs, by omega, by simp [val], fun _ _ => rfl⟩

theorem ext_getD {a b : List Nat} (hl : a.length = b.length) (h : ∀ p, a.getD p 0 = b.getD p 0) : a = b := by
  apply List.ext_getElem hl
  intro n h1 h2
  have := h n
  simpa [List.getD, h1, h2] using this

theorem MulAt.done {xs ys os qs : List Nat} {i j : Nat} (ht : MulAt xs ys i os) (h : RowAt (xs.getD i 0) ys os i j qs 0) (hj1 : ys.length ≤ j) (hj2 : j ≤ ys.length + 1) (hi : i < xs.length) : MulAt xs ys (i + 1) qs := by
  obtain ⟨h1, h2, h3, h4, h5⟩ := h
  obtain ⟨t1, t2, t3, t4⟩ := ht
  refine ⟨by rw [h1, t1], h2, ?_, ?_⟩
  · have e1 := val_take_drop qs (i + j) (by omega)
    have e2 := val_take_drop os (i + j) (by omega)
    have e3 : qs.drop (i + j) = os.drop (i + j) := by
      apply ext_getD (by simp [h1])
      intro p
      have := h5 (i + j + p) (by omega)
      simpa [List.getD, List.getElem?_drop] using this
    rw [e3] at e1
    rw [List.take_of_length_le hj1] at h4
    rw [getD_take_succ, Nat.add_mul, ← t3, Nat.mul_assoc]
    omega
  · intro p hp
    rw [h5 p (by omega)]
    exact t4 p (by omega)

theorem MulAt.fin {xs ys os : List Nat} (h : MulAt xs ys xs.length os) : val os = val xs * val ys := by
  rw [h.eq, List.take_length]

theorem RowAt.end_ {x : Nat} {xs ys os qs : List Nat} {i j c : Nat} (ht : MulAt xs ys i os) (h : RowAt x ys os i j qs c) (hy : Digs ys) (hj : ys.length < j) (hc : j = ys.length + 1 → c = 0) : True := trivial

set_option maxHeartbeats 4000000 in
theorem rmul_n {x y : Value} {a b : Nat} {w : World} (hx : NatV w x a) (hy : NatV w y b) (hl : (limbsOf a).length + (limbsOf b).length ≤ 1099511627775) :
    Calls Try.prog 59 #[.agg #[x], .agg #[y]] w (GivesN w (a * b)) := by
  obtain ⟨i0, hi, hz0, hz1, hz2⟩ := info_parts info_u32
  go_enter Try.func59, Try.ntmps59
  go_upto_region 1 with (fail)
  have hB0 : Boxes w (((w.alloc (.cells #[x] 32)).alloc (.cells #[y] 32)).alloc (.cells #[.slice none 0 0] 32)) [[x], [y], [.slice none 0 0]] := (((Boxes.nil_ w).alloc rfl [x] 32).alloc (by simp) [y] 32).alloc (by simp) [.slice none 0 0] 32
  generalize ((w.alloc (.cells #[x] 32)).alloc (.cells #[y] 32)).alloc (.cells #[.slice none 0 0] 32) = W0 at *
  have hx0 : NatV W0 x a := hx.below hB0.ext
  have HB0 := Lib.hid hB0
  obtain ⟨cx0, fx0⟩ : W0.cell? ⟨w.heap.size, 0, none⟩ = some x ∧ W0.frozen? ⟨w.heap.size, 0, none⟩ = false := hB0.cell 0 _ 0 _ rfl rfl
  clear hB0
  go_wp2_with fail
  refine (norm_n hx0).mono ?_
  intro e w1 hg
  obtain ⟨A1, c1, rfl, h1, x1, n1⟩ := hg.form
  clear hg
  have hB1 := HB0.out.below x1
  obtain ⟨cx1, fx1⟩ : w1.cell? ⟨w.heap.size, 0, none⟩ = some x ∧ w1.frozen? ⟨w.heap.size, 0, none⟩ = false := hB1.cell 0 _ 0 _ rfl rfl
  obtain ⟨cy1, fy1⟩ : w1.cell? ⟨w.heap.size + 1, 0, none⟩ = some y ∧ w1.frozen? ⟨w.heap.size + 1, 0, none⟩ = false := hB1.cell 1 _ 0 _ rfl rfl
  have HB1 := Lib.hid hB1
  clear hB1
  go_wp2_with fail
  have hB2 : Boxes w (w1.setCell ⟨w.heap.size, 0, none⟩ (.slice A1 (limbsOf a).length c1)) [[.slice A1 (limbsOf a).length c1], [y], [.slice none 0 0]] := HB1.out.set 0 0 _
  have hs0 : w.heap.size + 3 ≤ W0.heap.size := HB0.out.size
  have h1' := U32s.setNew (p := ⟨w.heap.size, 0, none⟩) h1 n1 (by show w.heap.size < _; omega) (.slice A1 (limbsOf a).length c1)
  have hs1 : w.heap.size + 3 ≤ (w1.setCell ⟨w.heap.size, 0, none⟩ (.slice A1 (limbsOf a).length c1)).heap.size := hB2.size
  clear cx0 fx0 cx1 fx1 cy1 fy1 HB1
  generalize w1.setCell ⟨w.heap.size, 0, none⟩ (.slice A1 (limbsOf a).length c1) = W1 at *
  obtain ⟨cy2, fy2⟩ : W1.cell? ⟨w.heap.size + 1, 0, none⟩ = some y ∧ W1.frozen? ⟨w.heap.size + 1, 0, none⟩ = false := hB2.cell 1 _ 0 _ rfl rfl
  have hy1 : NatV W1 y b := hy.below hB2.ext
  have HB2 := Lib.hid hB2
  clear hB2
  refine (norm_n hy1).mono ?_
  intro e w3 hg
  obtain ⟨A2, c2, rfl, h2, x3, n2⟩ := hg.form
  clear hg
  have hB3 := HB2.out.below x3
  obtain ⟨cy3, fy3⟩ : w3.cell? ⟨w.heap.size + 1, 0, none⟩ = some y ∧ w3.frozen? ⟨w.heap.size + 1, 0, none⟩ = false := hB3.cell 1 _ 0 _ rfl rfl
  have hB4 : Boxes w (w3.setCell ⟨w.heap.size + 1, 0, none⟩ (.slice A2 (limbsOf b).length c2)) [[.slice A1 (limbsOf a).length c1], [.slice A2 (limbsOf b).length c2], [.slice none 0 0]] := hB3.set 1 0 _
  have n1' : New (w.heap.size + 3) (.slice A1 (limbsOf a).length c1) := n1.mono hs0
  have n2' : New (w.heap.size + 3) (.slice A2 (limbsOf b).length c2) := n2.mono hs1
  have h1'' := U32s.setNew (p := ⟨w.heap.size + 1, 0, none⟩) (CanV.below h1' x3) n1' (by show w.heap.size + 1 < _; omega) (.slice A2 (limbsOf b).length c2)
  have h2'' := U32s.setNew (p := ⟨w.heap.size + 1, 0, none⟩) h2 n2' (by show w.heap.size + 1 < _; omega) (.slice A2 (limbsOf b).length c2)
  clear hB3 cy2 fy2 h1' h2 h1
  go_upto_region 3 with (fail)
  generalize w3.setCell ⟨w.heap.size + 1, 0, none⟩ (.slice A2 (limbsOf b).length c2) = W2 at *
  have h1' : CanV W2 (.slice A1 (limbsOf a).length c1) a := h1''
  have h2' : CanV W2 (.slice A2 (limbsOf b).length c2) b := h2''
  clear h1'' h2'' n1 n2 hs0 hs1 x1 x3 cy3 fy3 hx0 hy1 HB0 HB2 hx hy
  clear w3 W1 w1 W0
  have hE : Ext w W2 := hB4.ext
  have hs2 : w.heap.size + 1 + 1 + 1 ≤ W2.heap.size := hB4.size
  have HB := Lib.hid hB4
  clear hB4
  obtain ⟨A, cap, e, q2, q3, q4⟩ := h1'
  injection e with e1 e2 e3
  subst e1 e3
  obtain ⟨B, cap', e, k2, k3, k4⟩ := h2'
  injection e with e1 e2' e3
  subst e1 e3
  clear e2 e2'
  have da := limbsOf_digs a
  have db := limbsOf_digs b
  have va := val_limbsOf a
  have vb := val_limbsOf b
  generalize limbsOf a = xs at *
  generalize limbsOf b = ys at *
  have HVA := Lib.hid va
  have HVB := Lib.hid vb
  clear va vb
  obtain ⟨cx, fx⟩ : W2.cell? ⟨w.heap.size, 0, none⟩ = some (.slice A1 xs.length c1) ∧ W2.frozen? ⟨w.heap.size, 0, none⟩ = false := HB.out.cell 0 _ 0 _ rfl rfl
  obtain ⟨cy, fy⟩ : W2.cell? ⟨w.heap.size + 1, 0, none⟩ = some (.slice A2 ys.length c2) ∧ W2.frozen? ⟨w.heap.size + 1, 0, none⟩ = false := HB.out.cell 1 _ 0 _ rfl rfl
  clear fx fy
  go_wp2_with (first | (at_make; refine wpList_make_full _ rfl _ _ 30 rfl W2.heap.size 76 i0 (.int .u32 0) 1 Try.underlying30 hi hz0 hz1 _ _ _ _ (xs.length + ys.length + 1) rfl rfl (by omega) (by omega) ?b1 ?b2 ?b3 ?_) | fail)
  case b1 => rw [hz2]; omega
  case b2 => unfold maxLen; omega
  case b3 => exact Nat.le_refl _
  intro w4 hown hgrow
  rw [u32s_replicate] at hown
  have hb4 : Ext W2 w4 := (Below.refl _ _).grown hgrow (Nat.le_refl _) (by simp)
  clear hgrow cx cy
  go_wp2
  go_loopw [6] (fun iv wr => ∃ (i : Nat) (os : List Nat), i ≤ xs.length ∧ iv = .int .i64 i ∧
      wr.ownsRow W2.heap.size 76 1 (.slice (some ⟨W2.heap.size, 0, none⟩) (xs.length + ys.length + 1) (xs.length + ys.length + 1)) (xs.length + ys.length + 1) (u32s os) ∧ Ext W2 wr ∧ MulAt xs ys i os)
    (fun iv _ => xs.length - (intOf iv).toNat)
  case atStart => exact ⟨0, _, Nat.zero_le _, rfl, hown, hb4, MulAt.start xs ys⟩
  case round =>
    obtain ⟨i, os, hk, rfl, hown1, hbr, hat⟩ := hrel
    obtain ⟨wo, hwo⟩ : ∃ wo : World, wo = wr := ⟨_, rfl⟩
    subst hwo
    have hBo := HB.out.below hbr
    have cxr : wo.cell? ⟨w.heap.size, 0, none⟩ = some (.slice A1 xs.length c1) := (hBo.cell 0 _ 0 _ rfl rfl).1
    clear hBo
    have hol := Lib.hid hat.len
    by_cases hlt : i < xs.length
    · have hxk := da.getD i
      have hXC : ∀ W', Ext W2 W' → ∃ ad : Addr, A1 = some ad ∧ W'.cell? (ad.add i) = some (.int .u32 (xs.getD i 0 : Nat)) := by
        intro W' h
        obtain ⟨ad, u, e, _, hu, hc⟩ := (q4.below h).at_ (k := i) hlt
        rw [u32s_get _ _ hlt] at hu
        cases hu
        exact ⟨ad, e, hc⟩
      obtain ⟨ax, rfl, _⟩ := hXC wo hbr
      have HXC := Lib.hid hXC
      clear hXC
      go_wp2
      go_loopw [7, 8] (fun cv jv wr => ∃ (j c : Nat) (qs : List Nat), j ≤ ys.length + 1 ∧ (j = ys.length + 1 → c = 0) ∧ jv = .int .i64 j ∧ cv = .int .u64 c ∧
          wr.ownsRow W2.heap.size 76 1 (.slice (some ⟨W2.heap.size, 0, none⟩) (xs.length + ys.length + 1) (xs.length + ys.length + 1)) (xs.length + ys.length + 1) (u32s qs) ∧ Ext W2 wr ∧ RowAt (xs.getD i 0) ys os i j qs c)
        (fun _ jv _ => ys.length + 1 - (intOf jv).toNat)
      case atStart => exact ⟨0, 0, os, by omega, fun _ => rfl, rfl, rfl, hown1, hbr, hat.row⟩
      case round =>
        obtain ⟨j, c, qs, hj, hjc, rfl, rfl, hown2, hb2, hrow⟩ := hrel
        have hBr := HB.out.below hb2
        have cxq : wr.cell? ⟨w.heap.size, 0, none⟩ = some (.slice (some ax) xs.length c1) := (hBr.cell 0 _ 0 _ rfl rfl).1
        have cyq : wr.cell? ⟨w.heap.size + 1, 0, none⟩ = some (.slice A2 ys.length c2) := (hBr.cell 1 _ 0 _ rfl rfl).1
        obtain ⟨ax', e, hcx⟩ := HXC.out wr hb2
        injection e with e
        subst e
        clear hBr
        have hsm := hrow.small
        have hql : qs.length = xs.length + ys.length + 1 := by rw [hrow.len, hol.out]
        by_cases hgo : j < ys.length ∨ 0 < c
        · have hij : i + j < xs.length + ys.length + 1 := by
            rcases Nat.lt_or_ge j (ys.length + 1) with h | h
            · omega
            · have := hjc (by omega); omega
          have hqj := hrow.digs.getD (i + j)
          have hyj := db.getD j
          have hcq : wr.cell? ⟨W2.heap.size, i + j, none⟩ = some (.int .u32 (qs.getD (i + j) 0 : Nat)) := by rw [hown2.cellAt (i + j) (by omega), u32s_get qs _ (by omega)]
          have hfq : wr.frozen? ⟨W2.heap.size, i + j, none⟩ = false := hown2.frozenAt _
          have hst := Lib.hid (hrow.step db hxk (by rw [hol.out]; exact hij))
          have hend : j = ys.length → (c + (xs.getD i 0 * ys.getD j 0 + qs.getD (i + j) 0)) / 1000000000 = 0 := by
            intro h
            have e1 : ys.getD j 0 = 0 := by simp [List.getD, List.getElem?_eq_none (show ys.length ≤ j by omega)]
            have e2 : qs.getD (i + j) 0 = 0 := by rw [hrow.rest (i + j) (Nat.le_refl _)]; exact hat.zero _ (by omega)
            rw [e1, e2]
            omega
          have HEND := Lib.hid hend
          have hjl : j ≤ ys.length := by
            rcases Nat.lt_or_ge j (ys.length + 1) with h | h
            · omega
            · have := hjc (by omega); omega
          clear hrow hend
          have HQ := Lib.hid hql
          have HJC := Lib.hid hjc
          clear hql hjc
          by_cases hjy : j < ys.length
          · obtain ⟨bd, u, rfl, hb3, hu, hcl2⟩ := (k4.below hb2).at_ (k := j) hjy
            rw [u32s_get _ _ hjy] at hu
            cases hu
            generalize ys.getD j 0 = y at *
            generalize qs.getD (i + j) 0 = q at *
            generalize xs.getD i 0 = x at *
            have hxy : x * y ≤ 999999999 * 999999999 := Nat.mul_le_mul (by omega) (by omega)
            have hxy1 : (x : Int) * (y : Int) ≤ 999999998000000001 := by have := Int.ofNat_le.2 hxy; simpa using this
            have hxy0 : 0 ≤ (x : Int) * (y : Int) := Int.mul_nonneg (by omega) (by omega)
            clear hxy
            go_wp2
            go_quiet (fail)
            go_wp2
            go_roundw
            case rel =>
              have e : (q : Int) + c + (x : Int) * (y : Int) = ((c + (x * y + q) : Nat) : Int) := by simp; omega
              have hs := (hown2.drew.stored (i + j) (.int .u32 (((c + (x * y + q)) % 1000000000 : Nat) : Int))).1
              rw [u32s_set] at hs
              refine ⟨j + 1, _, _, by omega, fun h => HEND.out (by omega), by go_num, by rw [e]; go_num, ?_, (hb2.drewN _).setCell (Nat.le_refl _) _, hst.out⟩
              rw [e]
              exact hs
            case measure => simp [intOf]; try omega
          · have hy0 : ys.getD j 0 = 0 := by simp [List.getD, List.getElem?_eq_none (show ys.length ≤ j by omega)]
            rw [hy0] at hst HEND
            have hc0 : 0 < c := by omega
            clear hy0 hyj hgo
            generalize qs.getD (i + j) 0 = q at *
            generalize xs.getD i 0 = x at *
            go_wp2
            go_roundw
            case rel =>
              have e : (q : Int) + c = ((c + (x * 0 + q) : Nat) : Int) := by simp; omega
              have hs := (hown2.stored (i + j) (.int .u32 (((c + (x * 0 + q)) % 1000000000 : Nat) : Int))).1
              rw [u32s_set] at hs
              refine ⟨j + 1, _, _, by omega, fun h => HEND.out (by omega), by go_num, by rw [e]; go_num, ?_, hb2.setCell (Nat.le_refl _) _, hst.out⟩
              rw [e]
              exact hs
            case measure => simp [intOf]; try omega
        · obtain rfl : c = 0 := by omega
          have hdn := Lib.hid (MulAt.done hat hrow (by omega) hj hlt)
          clear hrow hql hjc
          have hjy : ¬ j < ys.length := by omega
          clear hgo
          go_wp2
          go_roundw
          case rel => exact ⟨i + 1, _, by omega, by go_num, hown2, hb2, hdn.out⟩
          case measure => simp [intOf]; try omega
    · obtain rfl : i = xs.length := by omega
      have hdone := hat.fin
      rw [HVA.out, HVB.out] at hdone
      have HN : NatV wo (.slice (some ⟨W2.heap.size, 0, none⟩) (xs.length + ys.length + 1) (xs.length + ys.length + 1)) (a * b) := ⟨os, U32s.of_row hown1, fun z hz => by have := hat.digs z hz; omega, by rw [hat.len]; omega, hdone⟩
      have hEr := hE.trans hbr
      clear hat hown1 hdone
      go_wp2_with fail
      refine (norm_n HN).mono ?_
      rintro e w5 ⟨A5, k5, c5, rfl, h5, x5, n5⟩
      obtain ⟨cz, fz⟩ : w5.cell? ⟨w.heap.size + 1 + 1, 0, none⟩ = some (.slice none 0 0) ∧ w5.frozen? ⟨w.heap.size + 1 + 1, 0, none⟩ = false := (HB.out.below (hbr.trans x5)).cell 2 _ 0 _ rfl rfl
      have hWs := hbr.size
      go_wp2
      refine bodyPost_ret (v := .agg #[.slice A5 k5 c5]) (by simp [results, Try.results59, go_sem, World.cell?_setCell_same _ _ _ cz]) rfl ?_
      exact ⟨_, _, _, rfl, U32s.setNew h5 n5 (by show w.heap.size + 1 + 1 < _; omega) _, (hEr.trans x5).setCell (by show w.heap.size ≤ w.heap.size + 1 + 1; omega) _, n5.mono (by omega)⟩

end Go.Proofs.Ytmfigiifflljpaa
namespace Go.Proofs.Ytmfigiifflljpaa
open Go.RowKit Num

set_option maxHeartbeats 2000000 in
theorem rdivmod_zero {x y : Value} {w : World} {a : Nat} (hx : NatV w x a) (hy : NatV w y 0) :
    Calls Try.prog 79 #[.agg #[x], .agg #[y]] w (fun e w' => e = .returned (.tuple #[.agg #[.slice none 0 0], .agg #[.slice none 0 0], .int .i64 12]) ∧ Ext w w') := by
  obtain ⟨b, hb⟩ : ∃ b : Nat, b = 0 := ⟨_, rfl⟩
  rw [← hb] at hy
  have Hb := Lib.hid hb
  clear hb
  go_enter Try.func79, Try.ntmps79
  go_upto_region 1 with (fail)
  have hB0 : Boxes w ((((w.alloc (.cells #[x] 32)).alloc (.cells #[y] 32)).alloc (.cells #[.slice none 0 0] 32)).alloc (.cells #[.slice none 0 0] 32)) [[x], [y], [.slice none 0 0], [.slice none 0 0]] := ((((Boxes.nil_ w).alloc rfl [x] 32).alloc (by simp) [y] 32).alloc (by simp) [.slice none 0 0] 32).alloc (by simp) [.slice none 0 0] 32
  generalize (((w.alloc (.cells #[x] 32)).alloc (.cells #[y] 32)).alloc (.cells #[.slice none 0 0] 32)).alloc (.cells #[.slice none 0 0] 32) = W0 at *
  have hx0 : NatV W0 x a := hx.below hB0.ext
  have HB0 := Lib.hid hB0
  obtain ⟨cx0, fx0⟩ : W0.cell? ⟨w.heap.size, 0, none⟩ = some x ∧ W0.frozen? ⟨w.heap.size, 0, none⟩ = false := hB0.cell 0 _ 0 _ rfl rfl
  clear hB0
  go_wp2_with fail
  refine (norm_n hx0).mono ?_
  intro e w1 hg
  obtain ⟨A1, c1, rfl, h1, x1, n1⟩ := hg.form
  clear hg
  have hB1 := HB0.out.below x1
  obtain ⟨cx1, fx1⟩ : w1.cell? ⟨w.heap.size, 0, none⟩ = some x ∧ w1.frozen? ⟨w.heap.size, 0, none⟩ = false := hB1.cell 0 _ 0 _ rfl rfl
  obtain ⟨cy1, fy1⟩ : w1.cell? ⟨w.heap.size + 1, 0, none⟩ = some y ∧ w1.frozen? ⟨w.heap.size + 1, 0, none⟩ = false := hB1.cell 1 _ 0 _ rfl rfl
  have HB1 := Lib.hid hB1
  clear hB1
  go_wp2_with fail
  have hB2 : Boxes w (w1.setCell ⟨w.heap.size, 0, none⟩ (.slice A1 (limbsOf a).length c1)) [[.slice A1 (limbsOf a).length c1], [y], [.slice none 0 0], [.slice none 0 0]] := HB1.out.set 0 0 _
  have hs0 : w.heap.size + 4 ≤ W0.heap.size := HB0.out.size
  have h1' := U32s.setNew (p := ⟨w.heap.size, 0, none⟩) h1 n1 (by show w.heap.size < _; omega) (.slice A1 (limbsOf a).length c1)
  have hs1 : w.heap.size + 4 ≤ (w1.setCell ⟨w.heap.size, 0, none⟩ (.slice A1 (limbsOf a).length c1)).heap.size := hB2.size
  clear cx0 fx0 cx1 fx1 cy1 fy1 HB1
  generalize w1.setCell ⟨w.heap.size, 0, none⟩ (.slice A1 (limbsOf a).length c1) = W1 at *
  obtain ⟨cy2, fy2⟩ : W1.cell? ⟨w.heap.size + 1, 0, none⟩ = some y ∧ W1.frozen? ⟨w.heap.size + 1, 0, none⟩ = false := hB2.cell 1 _ 0 _ rfl rfl
  have hy1 : NatV W1 y b := hy.below hB2.ext
  have HB2 := Lib.hid hB2
  clear hB2
  refine (norm_n hy1).mono ?_
  intro e w3 hg
  obtain ⟨A2, c2, rfl, h2, x3, n2⟩ := hg.form
  clear hg
  have hB3 := HB2.out.below x3
  obtain ⟨cy3, fy3⟩ : w3.cell? ⟨w.heap.size + 1, 0, none⟩ = some y ∧ w3.frozen? ⟨w.heap.size + 1, 0, none⟩ = false := hB3.cell 1 _ 0 _ rfl rfl
  have hB4 : Boxes w (w3.setCell ⟨w.heap.size + 1, 0, none⟩ (.slice A2 (limbsOf b).length c2)) [[.slice A1 (limbsOf a).length c1], [.slice A2 (limbsOf b).length c2], [.slice none 0 0], [.slice none 0 0]] := hB3.set 1 0 _
  have n1' : New (w.heap.size + 4) (.slice A1 (limbsOf a).length c1) := n1.mono hs0
  have n2' : New (w.heap.size + 4) (.slice A2 (limbsOf b).length c2) := n2.mono hs1
  have h1'' := U32s.setNew (p := ⟨w.heap.size + 1, 0, none⟩) (CanV.below h1' x3) n1' (by show w.heap.size + 1 < _; omega) (.slice A2 (limbsOf b).length c2)
  have h2'' := U32s.setNew (p := ⟨w.heap.size + 1, 0, none⟩) h2 n2' (by show w.heap.size + 1 < _; omega) (.slice A2 (limbsOf b).length c2)
  clear hB3 cy2 fy2 h1' h2 h1
  go_upto_region 3 with (fail)
  generalize w3.setCell ⟨w.heap.size + 1, 0, none⟩ (.slice A2 (limbsOf b).length c2) = W2 at *
  have h1' : CanV W2 (.slice A1 (limbsOf a).length c1) a := h1''
  have h2' : CanV W2 (.slice A2 (limbsOf b).length c2) b := h2''
  clear h1'' h2'' n1 n2 hs0 hs1 x1 x3 cy3 fy3 hx0 hy1 HB0 HB2 hx hy
  clear w3 W1 w1 W0
  obtain ⟨cx, fx⟩ : W2.cell? ⟨w.heap.size, 0, none⟩ = some (.slice A1 (limbsOf a).length c1) ∧ W2.frozen? ⟨w.heap.size, 0, none⟩ = false := hB4.cell 0 _ 0 _ rfl rfl
  obtain ⟨cy, fy⟩ : W2.cell? ⟨w.heap.size + 1, 0, none⟩ = some (.slice A2 (limbsOf b).length c2) ∧ W2.frozen? ⟨w.heap.size + 1, 0, none⟩ = false := hB4.cell 1 _ 0 _ rfl rfl
  have hE : Ext w W2 := hB4.ext
  have HB := Lib.hid hB4
  clear hB4
  obtain ⟨cz, fz⟩ : W2.cell? ⟨w.heap.size + 1 + 1, 0, none⟩ = some (.slice none 0 0) ∧ W2.frozen? ⟨w.heap.size + 1 + 1, 0, none⟩ = false := HB.out.cell 2 _ 0 _ rfl rfl
  obtain ⟨cu, fu⟩ : W2.cell? ⟨w.heap.size + 1 + 1 + 1, 0, none⟩ = some (.slice none 0 0) ∧ W2.frozen? ⟨w.heap.size + 1 + 1 + 1, 0, none⟩ = false := HB.out.cell 3 _ 0 _ rfl rfl
  rw [limbs_zero_len Hb.out] at cy ⊢
  go_wp2
  refine bodyPost_ret (v := .tuple #[.agg #[.slice none 0 0], .agg #[.slice none 0 0], .int .i64 12]) (by obtain ⟨e1, e2⟩ := two_cells (u := .slice none 0 0) (v := .slice none 0 0) cz cu (by simp); simp [results, Try.results79, go_sem, e1, e2]) rfl ?_
  exact ⟨rfl, (hE.setCell (by show w.heap.size ≤ w.heap.size + 1 + 1; omega) _).setCell (by show w.heap.size ≤ w.heap.size + 1 + 1 + 1; omega) _⟩

set_option maxHeartbeats 2000000 in
theorem rdivmod_small {x y : Value} {a b : Nat} {w : World} (hx : NatV w x a) (hy : NatV w y b) (hlt : a < b) (ha : (limbsOf a).length ≤ 1099511627776) (hb : (limbsOf b).length ≤ 1099511627776) :
    Calls Try.prog 79 #[.agg #[x], .agg #[y]] w (DivModR w a b) := by
  have hc : cmpN a b < 0 := cmpN_neg.2 hlt
  have hlp := limbs_pos_len (show 0 < b by omega)
  go_enter Try.func79, Try.ntmps79
  go_upto_region 1 with (fail)
  have hB0 : Boxes w ((((w.alloc (.cells #[x] 32)).alloc (.cells #[y] 32)).alloc (.cells #[.slice none 0 0] 32)).alloc (.cells #[.slice none 0 0] 32)) [[x], [y], [.slice none 0 0], [.slice none 0 0]] := ((((Boxes.nil_ w).alloc rfl [x] 32).alloc (by simp) [y] 32).alloc (by simp) [.slice none 0 0] 32).alloc (by simp) [.slice none 0 0] 32
  generalize (((w.alloc (.cells #[x] 32)).alloc (.cells #[y] 32)).alloc (.cells #[.slice none 0 0] 32)).alloc (.cells #[.slice none 0 0] 32) = W0 at *
  have hx0 : NatV W0 x a := hx.below hB0.ext
  have HB0 := Lib.hid hB0
  obtain ⟨cx0, fx0⟩ : W0.cell? ⟨w.heap.size, 0, none⟩ = some x ∧ W0.frozen? ⟨w.heap.size, 0, none⟩ = false := hB0.cell 0 _ 0 _ rfl rfl
  clear hB0
  go_wp2_with fail
  refine (norm_n hx0).mono ?_
  intro e w1 hg
  obtain ⟨A1, c1, rfl, h1, x1, n1⟩ := hg.form
  clear hg
  have hB1 := HB0.out.below x1
  obtain ⟨cx1, fx1⟩ : w1.cell? ⟨w.heap.size, 0, none⟩ = some x ∧ w1.frozen? ⟨w.heap.size, 0, none⟩ = false := hB1.cell 0 _ 0 _ rfl rfl
  obtain ⟨cy1, fy1⟩ : w1.cell? ⟨w.heap.size + 1, 0, none⟩ = some y ∧ w1.frozen? ⟨w.heap.size + 1, 0, none⟩ = false := hB1.cell 1 _ 0 _ rfl rfl
  have HB1 := Lib.hid hB1
  clear hB1
  go_wp2_with fail
  have hB2 : Boxes w (w1.setCell ⟨w.heap.size, 0, none⟩ (.slice A1 (limbsOf a).length c1)) [[.slice A1 (limbsOf a).length c1], [y], [.slice none 0 0], [.slice none 0 0]] := HB1.out.set 0 0 _
  have hs0 : w.heap.size + 4 ≤ W0.heap.size := HB0.out.size
  have h1' := U32s.setNew (p := ⟨w.heap.size, 0, none⟩) h1 n1 (by show w.heap.size < _; omega) (.slice A1 (limbsOf a).length c1)
  have hs1 : w.heap.size + 4 ≤ (w1.setCell ⟨w.heap.size, 0, none⟩ (.slice A1 (limbsOf a).length c1)).heap.size := hB2.size
  clear cx0 fx0 cx1 fx1 cy1 fy1 HB1
  generalize w1.setCell ⟨w.heap.size, 0, none⟩ (.slice A1 (limbsOf a).length c1) = W1 at *
  obtain ⟨cy2, fy2⟩ : W1.cell? ⟨w.heap.size + 1, 0, none⟩ = some y ∧ W1.frozen? ⟨w.heap.size + 1, 0, none⟩ = false := hB2.cell 1 _ 0 _ rfl rfl
  have hy1 : NatV W1 y b := hy.below hB2.ext
  have HB2 := Lib.hid hB2
  clear hB2
  refine (norm_n hy1).mono ?_
  intro e w3 hg
  obtain ⟨A2, c2, rfl, h2, x3, n2⟩ := hg.form
  clear hg
  have hB3 := HB2.out.below x3
  obtain ⟨cy3, fy3⟩ : w3.cell? ⟨w.heap.size + 1, 0, none⟩ = some y ∧ w3.frozen? ⟨w.heap.size + 1, 0, none⟩ = false := hB3.cell 1 _ 0 _ rfl rfl
  have hB4 : Boxes w (w3.setCell ⟨w.heap.size + 1, 0, none⟩ (.slice A2 (limbsOf b).length c2)) [[.slice A1 (limbsOf a).length c1], [.slice A2 (limbsOf b).length c2], [.slice none 0 0], [.slice none 0 0]] := hB3.set 1 0 _
  have n1' : New (w.heap.size + 4) (.slice A1 (limbsOf a).length c1) := n1.mono hs0
  have n2' : New (w.heap.size + 4) (.slice A2 (limbsOf b).length c2) := n2.mono hs1
  have h1'' := U32s.setNew (p := ⟨w.heap.size + 1, 0, none⟩) (CanV.below h1' x3) n1' (by show w.heap.size + 1 < _; omega) (.slice A2 (limbsOf b).length c2)
  have h2'' := U32s.setNew (p := ⟨w.heap.size + 1, 0, none⟩) h2 n2' (by show w.heap.size + 1 < _; omega) (.slice A2 (limbsOf b).length c2)
  clear hB3 cy2 fy2 h1' h2 h1
  go_upto_region 3 with (fail)
  generalize w3.setCell ⟨w.heap.size + 1, 0, none⟩ (.slice A2 (limbsOf b).length c2) = W2 at *
  have h1' : CanV W2 (.slice A1 (limbsOf a).length c1) a := h1''
  have h2' : CanV W2 (.slice A2 (limbsOf b).length c2) b := h2''
  clear h1'' h2'' n1 n2 hs0 hs1 x1 x3 cy3 fy3 hx0 hy1 HB0 HB2 hx hy
  clear w3 W1 w1 W0
  obtain ⟨cx, fx⟩ : W2.cell? ⟨w.heap.size, 0, none⟩ = some (.slice A1 (limbsOf a).length c1) ∧ W2.frozen? ⟨w.heap.size, 0, none⟩ = false := hB4.cell 0 _ 0 _ rfl rfl
  obtain ⟨cy, fy⟩ : W2.cell? ⟨w.heap.size + 1, 0, none⟩ = some (.slice A2 (limbsOf b).length c2) ∧ W2.frozen? ⟨w.heap.size + 1, 0, none⟩ = false := hB4.cell 1 _ 0 _ rfl rfl
  have hE : Ext w W2 := hB4.ext
  have HB := Lib.hid hB4
  clear hB4
  have n1 : New (w.heap.size + 4) (.slice A1 (limbsOf a).length c1) := n1'
  go_wp2_with fail
  refine (rcmp_n (CanV.nat h1' ha) (CanV.nat h2' hb)).mono ?_
  rintro e w1 ⟨rfl, x1⟩
  have hB1 := HB.out.below x1
  obtain ⟨cx1, fx1⟩ : w1.cell? ⟨w.heap.size, 0, none⟩ = some (.slice A1 (limbsOf a).length c1) ∧ w1.frozen? ⟨w.heap.size, 0, none⟩ = false := hB1.cell 0 _ 0 _ rfl rfl
  obtain ⟨cz, fz⟩ : w1.cell? ⟨w.heap.size + 1 + 1, 0, none⟩ = some (.slice none 0 0) ∧ w1.frozen? ⟨w.heap.size + 1 + 1, 0, none⟩ = false := hB1.cell 2 _ 0 _ rfl rfl
  obtain ⟨cu, fu⟩ : w1.cell? ⟨w.heap.size + 1 + 1 + 1, 0, none⟩ = some (.slice none 0 0) ∧ w1.frozen? ⟨w.heap.size + 1 + 1 + 1, 0, none⟩ = false := hB1.cell 3 _ 0 _ rfl rfl
  have hE1 := hB1.ext
  clear hB1 cx fx cy fy
  generalize cmpN a b = c at *
  go_wp2
  go_region
  all_goals go_wp2
  have hb0 : 0 < b := by omega
  have hr1 : CanV w1 (.slice A1 (limbsOf a).length c1) a := h1'.below x1
  refine bodyPost_ret (v := .tuple #[.agg #[.slice none 0 0], .agg #[.slice A1 (limbsOf a).length c1], .int .i64 0]) (by obtain ⟨e1, e2⟩ := two_cells (u := .slice none 0 0) (v := .slice A1 (limbsOf a).length c1) cz cu (by simp); simp [results, Try.results79, go_sem, e1, e2]) rfl ?_
  refine ⟨_, _, _, _, _, _, rfl, ?_, ?_, ((hE1.setCell (by show w.heap.size ≤ w.heap.size + 1 + 1; omega) _).setCell (by show w.heap.size ≤ w.heap.size + 1 + 1 + 1; omega) _).drew, New.nil_ _, n1.mono (by omega)⟩
  · rw [Nat.div_eq_of_lt hlt]; exact CanV.nil_ _
  · rw [Nat.mod_eq_of_lt hlt]
    exact CanV.drew ((U32s.setNew hr1 n1 (by show w.heap.size + 1 + 1 < _; omega) _).setNew n1 (by show w.heap.size + 1 + 1 + 1 < _; omega) _)

end Go.Proofs.Ytmfigiifflljpaa
