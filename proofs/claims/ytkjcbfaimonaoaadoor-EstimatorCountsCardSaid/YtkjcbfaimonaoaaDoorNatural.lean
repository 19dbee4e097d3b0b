/- natural: Add, Sub, Mul, DivMod, Gcd, Cmp, Of. -/
import Derived.Test.YtkjcbfaimonaoaaDoorDivide
import Derived.Deep.RegionHeld3
import Derived.Deep.LoopGhost
set_option linter.unusedVariables false
set_option linter.unusedSimpArgs false
set_option maxRecDepth 100000
namespace Go.Proofs.YtkjcbfaimonaoaaDoor
open Go.RowKit Num

theorem made_c {v : Value} {n : Nat} {w : World} {B : Nat} (hv : CanV w v n) (hn : New B v) :
    Calls Tryd.prog 69 #[v] w (fun e w' => ∃ A k c, e = .returned (.agg #[.slice A k c]) ∧ CanV w' (.slice A k c) n ∧ Ext w w' ∧ New B (.slice A k c)) := by
  have := made_any hv (limbsOf_digs n) hn
  rwa [val_limbsOf] at this

/-- Two boxes of one cell each and a box for the answer. -/
structure Box3 (w W0 : World) (x y : Value) : Prop where
  ext : Ext w W0
  size : W0.heap.size = w.heap.size + 1 + 1 + 1
  rd : ∀ w', Below (w.heap.size + 1 + 1) W0 w' → w'.cell? ⟨w.heap.size, 0, none⟩ = some x ∧ w'.cell? ⟨w.heap.size + 1, 0, none⟩ = some y
  zc : ∀ w', Ext W0 w' → w'.cell? ⟨w.heap.size + 1 + 1, 0, none⟩ = some (.slice none 0 0) ∧ w'.frozen? ⟨w.heap.size + 1 + 1, 0, none⟩ = false

theorem box3 (w : World) (x y : Value) (t : TypeId) : Box3 w (((w.alloc (.cells #[x] t)).alloc (.cells #[y] t)).alloc (.cells #[.slice none 0 0] t)) x y := by
  refine ⟨(((Below.refl _ _).alloc (Nat.le_refl _) _).alloc (by simp) _).alloc (by simp; omega) _, by simp, ?_, ?_⟩ <;> intro w' h <;> constructor
  · rw [h.cell (by simp; omega)]; simp [go_sem, World.cell?_alloc_old]
  · rw [h.cell (by simp)]; simp [go_sem, World.cell?_alloc_old]
  · rw [h.cell (by simp)]; simp [go_sem]
  · rw [h.frozen (by simp)]; simp [go_sem]

theorem Box3.low {w W0 W1 w' : World} {x y : Value} (h : Box3 w W0 x y) (hE : Below (w.heap.size + 1 + 1) W0 W1) (hx : Ext W1 w') : Below (w.heap.size + 1 + 1) W0 w' :=
  hE.trans (hx.mono (by have := h.size; have := hE.size; omega))
theorem Box3.fin {w W0 w' : World} {x y : Value} (h : Box3 w W0 x y) (hE : Ext W0 w') (u : Value) : Ext w (w'.setCell ⟨w.heap.size + 1 + 1, 0, none⟩ u) :=
  (h.ext.trans hE).setCell (by show w.heap.size ≤ w.heap.size + 1 + 1; omega) u
theorem Box3.res {w W0 W w' : World} {x y : Value} (h : Box3 w W0 x y) (hE : Ext W0 W) {v : Value} {n : Nat} (hv : CanV w' v n) (hn : New W.heap.size v) (u : Value) : CanV (w'.setCell ⟨w.heap.size + 1 + 1, 0, none⟩ u) v n :=
  U32s.setNew hv hn (by have := h.size; have := hE.size; show w.heap.size + 1 + 1 < _; omega) u
theorem Box3.new {w W0 W : World} {x y : Value} (h : Box3 w W0 x y) (hE : Ext W0 W) {v : Value} (hn : New W.heap.size v) : New w.heap.size v :=
  hn.mono (by have := h.size; have := hE.size; omega)

set_option maxHeartbeats 1000000 in
theorem add_n {x y : Value} {a b : Nat} {w : World} (hx : NatV w x a) (hy : NatV w y b) (ha : (limbsOf a).length ≤ 2199023255552) (hb : (limbsOf b).length ≤ 2199023255552) :
    Calls Tryd.prog 74 #[.agg #[x], .agg #[y]] w (GivesN w (a + b)) := by
  go_enter Tryd.func74, Tryd.ntmps74
  go_wp2
  have hB := box3 w x y 30
  generalize ((w.alloc (.cells #[x] 30)).alloc (.cells #[y] 30)).alloc (.cells #[.slice none 0 0] 30) = W0 at *
  have hE0 : Ext W0 W0.drew := (Below.refl _ _).drew
  have hL0 : Below (w.heap.size + 1 + 1) W0 W0.drew := (Below.refl _ _).drew
  have hA0 : NatV W0.drew x a := (hx.below hB.ext).drew
  have hB0 : NatV W0.drew y b := (hy.below hB.ext).drew
  have HB := Lib.hid hB
  clear hB
  go_region_held3 (fun w' => w'.cell? ⟨w.heap.size, 0, none⟩ = some x ∧ w'.cell? ⟨w.heap.size + 1, 0, none⟩ = some y)
    (first | exact HB.out.rd _ (hL4.setCell (Nat.le_refl _) _) | exact HB.out.rd _ hL4 | exact HB.out.rd _ hL3 | exact HB.out.rd _ hL2 | exact HB.out.rd _ hL1 | exact HB.out.rd _ hL0)
    (first
      | (go_at_call 68; (with_reducible refine (limbs_n hA0).mono ?_); rintro e w1 ⟨v1, rfl, h1, x1, n1⟩; have hL1 := HB.out.low hL0 x1)
      | (go_at_call 68; (with_reducible refine (limbs_n (hB0.below x1)).mono ?_); rintro e w2 ⟨v2, rfl, h2, x2, n2⟩; have hL2 := HB.out.low hL1 x2)
      | (go_at_call 93; (with_reducible refine (plus_any (h1.below x2) h2 ha hb).mono ?_); rintro e w3 ⟨v3, rfl, h3, x3, n3⟩; have hL3 := HB.out.low hL2 x3)
      | (go_at_call 69; (with_reducible refine (made_c h3 n3).mono ?_); rintro e w4 ⟨A4, k4, c4, rfl, h4, x4, n4⟩; have hL4 := HB.out.low hL3 x4; obtain ⟨z4, zf4⟩ := HB.out.zc _ ((((hE0.trans x1).trans x2).trans x3).trans x4)))
  have hE2 := (hE0.trans x1).trans x2
  go_wp2
  refine bodyPost_ret (v := .agg #[.slice A4 k4 c4]) (by simp [results, Tryd.results74, go_sem, World.cell?_setCell_same _ _ _ z4]) rfl ?_
  exact ⟨_, _, _, rfl, HB.out.res hE2 h4 n4 _, HB.out.fin ((hE2.trans x3).trans x4) _, HB.out.new hE2 n4⟩

set_option maxHeartbeats 1000000 in
theorem mul_n {x y : Value} {a b : Nat} {w : World} (hx : NatV w x a) (hy : NatV w y b) (hl : (limbsOf a).length + (limbsOf b).length ≤ 8796093022208) :
    Calls Tryd.prog 48 #[.agg #[x], .agg #[y]] w (GivesN w (a * b)) := by
  go_enter Tryd.func48, Tryd.ntmps48
  go_wp2
  have hB := box3 w x y 30
  generalize ((w.alloc (.cells #[x] 30)).alloc (.cells #[y] 30)).alloc (.cells #[.slice none 0 0] 30) = W0 at *
  have hE0 : Ext W0 W0.drew := (Below.refl _ _).drew
  have hL0 : Below (w.heap.size + 1 + 1) W0 W0.drew := (Below.refl _ _).drew
  have hA0 : NatV W0.drew x a := (hx.below hB.ext).drew
  have hB0 : NatV W0.drew y b := (hy.below hB.ext).drew
  have HB := Lib.hid hB
  clear hB
  go_region_held3 (fun w' => w'.cell? ⟨w.heap.size, 0, none⟩ = some x ∧ w'.cell? ⟨w.heap.size + 1, 0, none⟩ = some y)
    (first | exact HB.out.rd _ (hL4.setCell (Nat.le_refl _) _) | exact HB.out.rd _ hL4 | exact HB.out.rd _ hL3 | exact HB.out.rd _ hL2 | exact HB.out.rd _ hL1 | exact HB.out.rd _ hL0)
    (first
      | (go_at_call 68; (with_reducible refine (limbs_n hA0).mono ?_); rintro e w1 ⟨v1, rfl, h1, x1, n1⟩; have hL1 := HB.out.low hL0 x1)
      | (go_at_call 68; (with_reducible refine (limbs_n (hB0.below x1)).mono ?_); rintro e w2 ⟨v2, rfl, h2, x2, n2⟩; have hL2 := HB.out.low hL1 x2)
      | (go_at_call 70; (with_reducible refine (times_any (h1.below x2) h2 hl).mono ?_); rintro e w3 ⟨v3, rfl, h3, x3, n3⟩; have hL3 := HB.out.low hL2 x3)
      | (go_at_call 69; (with_reducible refine (made_c h3 n3).mono ?_); rintro e w4 ⟨A4, k4, c4, rfl, h4, x4, n4⟩; have hL4 := HB.out.low hL3 x4; obtain ⟨z4, zf4⟩ := HB.out.zc _ ((((hE0.trans x1).trans x2).trans x3).trans x4)))
  have hE2 := (hE0.trans x1).trans x2
  go_wp2
  refine bodyPost_ret (v := .agg #[.slice A4 k4 c4]) (by simp [results, Tryd.results48, go_sem, World.cell?_setCell_same _ _ _ z4]) rfl ?_
  exact ⟨_, _, _, rfl, HB.out.res hE2 h4 n4 _, HB.out.fin ((hE2.trans x3).trans x4) _, HB.out.new hE2 n4⟩

/-- Two boxes of one cell each. -/
structure Box2 (w W0 : World) (x y : Value) : Prop where
  ext : Ext w W0
  size : W0.heap.size = w.heap.size + 1 + 1
  rd : ∀ w', Ext W0 w' → w'.cell? ⟨w.heap.size, 0, none⟩ = some x ∧ w'.cell? ⟨w.heap.size + 1, 0, none⟩ = some y

theorem box2 (w : World) (x y : Value) (t : TypeId) : Box2 w ((w.alloc (.cells #[x] t)).alloc (.cells #[y] t)) x y := by
  refine ⟨((Below.refl _ _).alloc (Nat.le_refl _) _).alloc (by simp) _, by simp, ?_⟩ <;> intro w' h <;> constructor
  · rw [h.cell (by simp; omega)]; simp [go_sem, World.cell?_alloc_old]
  · rw [h.cell (by simp)]; simp [go_sem]

set_option maxHeartbeats 1000000 in
theorem cmp_n {x y : Value} {a b : Nat} {w : World} (hx : NatV w x a) (hy : NatV w y b) :
    Calls Tryd.prog 47 #[.agg #[x], .agg #[y]] w (fun e w' => e = .returned (.int .i64 (cmpN a b)) ∧ Ext w w') := by
  go_enter Tryd.func47, Tryd.ntmps47
  go_wp2
  have hB := box2 w x y 30
  generalize (w.alloc (.cells #[x] 30)).alloc (.cells #[y] 30) = W0 at *
  have hL0 : Ext W0 W0.drew := (Below.refl _ _).drew
  have hA0 : NatV W0.drew x a := (hx.below hB.ext).drew
  have hB0 : NatV W0.drew y b := (hy.below hB.ext).drew
  have HB := Lib.hid hB
  clear hB
  go_region_held3 (fun w' => w'.cell? ⟨w.heap.size, 0, none⟩ = some x ∧ w'.cell? ⟨w.heap.size + 1, 0, none⟩ = some y)
    (first | exact HB.out.rd _ hL3 | exact HB.out.rd _ hL2 | exact HB.out.rd _ hL1 | exact HB.out.rd _ hL0)
    (first
      | (go_at_call 68; (with_reducible refine (limbs_n hA0).mono ?_); rintro e w1 ⟨v1, rfl, h1, x1, n1⟩; have hL1 := hL0.trans x1)
      | (go_at_call 68; (with_reducible refine (limbs_n (hB0.below x1)).mono ?_); rintro e w2 ⟨v2, rfl, h2, x2, n2⟩; have hL2 := hL1.trans x2)
      | (go_at_call 67; (with_reducible refine (compare_any (h1.below x2) h2).mono ?_); rintro e w3 ⟨rfl, x3⟩; have hL3 := hL2.trans x3))
  go_wp2
  go_ret
  exact ⟨rfl, HB.out.ext.trans hL3⟩

set_option maxHeartbeats 1000000 in
theorem sub_lt {x y : Value} {a b : Nat} {w : World} (hx : NatV w x a) (hy : NatV w y b) (hlt : a < b) :
    Calls Tryd.prog 75 #[.agg #[x], .agg #[y]] w (fun e w' => e = .returned (.tuple #[.agg #[.slice none 0 0], .int .i64 2]) ∧ Ext w w') := by
  have hc : cmpN a b < 0 := cmpN_neg.2 hlt
  go_enter Tryd.func75, Tryd.ntmps75
  go_wp2
  have hB := box3 w x y 30
  generalize ((w.alloc (.cells #[x] 30)).alloc (.cells #[y] 30)).alloc (.cells #[.slice none 0 0] 30) = W0 at *
  have hE0 : Ext W0 W0.drew := (Below.refl _ _).drew
  have hL0 : Below (w.heap.size + 1 + 1) W0 W0.drew := (Below.refl _ _).drew
  have hA0 : NatV W0.drew x a := (hx.below hB.ext).drew
  have hB0 : NatV W0.drew y b := (hy.below hB.ext).drew
  have HB := Lib.hid hB
  clear hB
  go_region_held3 (fun w' => w'.cell? ⟨w.heap.size, 0, none⟩ = some x ∧ w'.cell? ⟨w.heap.size + 1, 0, none⟩ = some y)
    (first | exact HB.out.rd _ hL2 | exact HB.out.rd _ hL1 | exact HB.out.rd _ hL0)
    (first
      | (go_at_call 68; (with_reducible refine (limbs_n hA0).mono ?_); rintro e w1 ⟨v1, rfl, h1, x1, n1⟩; have hL1 := HB.out.low hL0 x1)
      | (go_at_call 68; (with_reducible refine (limbs_n (hB0.below x1)).mono ?_); rintro e w2 ⟨v2, rfl, h2, x2, n2⟩; have hL2 := HB.out.low hL1 x2))
  have hE2 := (hE0.trans x1).trans x2
  go_wp2_with fail
  refine (compare_any (h1.below x2) h2).mono ?_
  rintro e w3 ⟨rfl, x3⟩
  obtain ⟨z3, zf3⟩ := HB.out.zc _ (hE2.trans x3)
  generalize cmpN a b = c at *
  go_wp2
  refine bodyPost_ret (v := .tuple #[.agg #[.slice none 0 0], .int .i64 2]) (by simp [results, Tryd.results75, go_sem, World.cell?_setCell_same _ _ _ z3]) rfl ?_
  exact ⟨rfl, HB.out.fin (hE2.trans x3) _⟩

set_option maxHeartbeats 1000000 in
theorem sub_ge {x y : Value} {a b : Nat} {w : World} (hx : NatV w x a) (hy : NatV w y b) (hge : b ≤ a) (ha : (limbsOf a).length ≤ 4398046511104) :
    Calls Tryd.prog 75 #[.agg #[x], .agg #[y]] w (fun e w' => ∃ A k c, e = .returned (.tuple #[.agg #[.slice A k c], .int .i64 0]) ∧ CanV w' (.slice A k c) (a - b) ∧ Ext w w' ∧ New w.heap.size (.slice A k c)) := by
  have hc : 0 ≤ cmpN a b := by have := @cmpN_neg a b; omega
  go_enter Tryd.func75, Tryd.ntmps75
  go_wp2
  have hB := box3 w x y 30
  generalize ((w.alloc (.cells #[x] 30)).alloc (.cells #[y] 30)).alloc (.cells #[.slice none 0 0] 30) = W0 at *
  have hE0 : Ext W0 W0.drew := (Below.refl _ _).drew
  have hL0 : Below (w.heap.size + 1 + 1) W0 W0.drew := (Below.refl _ _).drew
  have hA0 : NatV W0.drew x a := (hx.below hB.ext).drew
  have hB0 : NatV W0.drew y b := (hy.below hB.ext).drew
  have HB := Lib.hid hB
  clear hB
  go_region_held3 (fun w' => w'.cell? ⟨w.heap.size, 0, none⟩ = some x ∧ w'.cell? ⟨w.heap.size + 1, 0, none⟩ = some y)
    (first | exact HB.out.rd _ hL2 | exact HB.out.rd _ hL1 | exact HB.out.rd _ hL0)
    (first
      | (go_at_call 68; (with_reducible refine (limbs_n hA0).mono ?_); rintro e w1 ⟨v1, rfl, h1, x1, n1⟩; have hL1 := HB.out.low hL0 x1)
      | (go_at_call 68; (with_reducible refine (limbs_n (hB0.below x1)).mono ?_); rintro e w2 ⟨v2, rfl, h2, x2, n2⟩; have hL2 := HB.out.low hL1 x2))
  have hE2 := (hE0.trans x1).trans x2
  go_wp2_with fail
  refine (compare_any (h1.below x2) h2).mono ?_
  rintro e w3 ⟨rfl, x3⟩
  generalize cmpN a b = c at *
  go_wp2_with fail
  refine (minus_any ((h1.below x2).below x3) (h2.below x3) ha hge).mono ?_
  rintro e w4 ⟨v4, rfl, h4, x4, n4⟩
  go_wp2_with fail
  refine (made_c h4 n4).mono ?_
  rintro e w5 ⟨A5, k5, c5, rfl, h5, x5, n5⟩
  have hE3 := hE2.trans x3
  obtain ⟨z5, zf5⟩ := HB.out.zc _ ((hE3.trans x4).trans x5)
  go_wp2
  refine bodyPost_ret (v := .tuple #[.agg #[.slice A5 k5 c5], .int .i64 0]) (by simp [results, Tryd.results75, go_sem, World.cell?_setCell_same _ _ _ z5]) rfl ?_
  exact ⟨_, _, _, rfl, HB.out.res hE3 h5 n5 _, HB.out.fin ((hE3.trans x4).trans x5) _, HB.out.new hE3 n5⟩

/-- Four boxes. -/
structure Box4 (w W0 : World) (x y : Value) : Prop where
  ext : Ext w W0
  size : W0.heap.size = w.heap.size + 1 + 1 + 1 + 1
  rd : ∀ w', Below (w.heap.size + 1 + 1) W0 w' → w'.cell? ⟨w.heap.size, 0, none⟩ = some x ∧ w'.cell? ⟨w.heap.size + 1, 0, none⟩ = some y
  zc : ∀ w', Ext W0 w' → w'.cell? ⟨w.heap.size + 1 + 1, 0, none⟩ = some (.slice none 0 0) ∧ w'.frozen? ⟨w.heap.size + 1 + 1, 0, none⟩ = false
  yc : ∀ w', Ext W0 w' → w'.cell? ⟨w.heap.size + 1 + 1 + 1, 0, none⟩ = some (.slice none 0 0) ∧ w'.frozen? ⟨w.heap.size + 1 + 1 + 1, 0, none⟩ = false

theorem box4 (w : World) (x y : Value) (t : TypeId) : Box4 w ((((w.alloc (.cells #[x] t)).alloc (.cells #[y] t)).alloc (.cells #[.slice none 0 0] t)).alloc (.cells #[.slice none 0 0] t)) x y := by
  refine ⟨((((Below.refl _ _).alloc (Nat.le_refl _) _).alloc (by simp) _).alloc (by simp; omega) _).alloc (by simp; omega) _, by simp, ?_, ?_, ?_⟩ <;> intro w' h <;> constructor
  · rw [h.cell (by simp; omega)]; simp [go_sem, World.cell?_alloc_old]
  · rw [h.cell (by simp)]; simp [go_sem, World.cell?_alloc_old]
  · rw [h.cell (by simp)]; simp [go_sem, World.cell?_alloc_old]
  · rw [h.frozen (by simp)]; simp [go_sem, World.frozen?_alloc_old]
  · rw [h.cell (by simp)]; simp [go_sem]
  · rw [h.frozen (by simp)]; simp [go_sem]

theorem two_cells {w : World} {p q : Addr} {u v x y : Value} (hp : w.cell? p = some x) (hq : w.cell? q = some y) (hne : p ≠ q) :
    ((w.setCell p u).setCell q v).cell? p = some u ∧ ((w.setCell p u).setCell q v).cell? q = some v :=
  ⟨by rw [World.cell?_setCell_other _ _ _ _ (Ne.symm hne)]; exact World.cell?_setCell_same _ _ _ hp, World.cell?_setCell_same _ _ _ (by rw [World.cell?_setCell_other _ _ _ _ hne]; exact hq)⟩

theorem limbs_zero_len {b : Nat} (h : b = 0) : (limbsOf b).length = 0 := by subst h; rw [limbsOf_zero]; rfl
theorem limbs_pos_len {b : Nat} (h : 0 < b) : 0 < (limbsOf b).length := by
  rcases Nat.eq_zero_or_pos (limbsOf b).length with h0 | h0
  · have := (limbsOf_nil_iff b).1 (List.eq_nil_of_length_eq_zero h0); omega
  · exact h0

set_option maxHeartbeats 1000000 in
theorem divmod_zero {x y : Value} {w : World} (hy : NatV w y 0) :
    Calls Tryd.prog 73 #[.agg #[x], .agg #[y]] w (fun e w' => e = .returned (.tuple #[.agg #[.slice none 0 0], .agg #[.slice none 0 0], .int .i64 12]) ∧ Ext w w') := by
  go_enter Tryd.func73, Tryd.ntmps73
  go_upto_region 1 with (fail)
  have hB := box4 w x y 30
  generalize (((w.alloc (.cells #[x] 30)).alloc (.cells #[y] 30)).alloc (.cells #[.slice none 0 0] 30)).alloc (.cells #[.slice none 0 0] 30) = W0 at *
  have hy0 : NatV W0 y 0 := hy.below hB.ext
  obtain ⟨_, hyc⟩ := hB.rd W0 (Below.refl _ _)
  have HB := Lib.hid hB
  clear hB
  go_wp2_with fail
  refine (limbs_n hy0).mono ?_
  rintro e w1 ⟨v1, rfl, h1, x1, n1⟩
  obtain ⟨A1, c1, rfl, _, _, _⟩ := h1
  rw [limbs_zero_len rfl]
  obtain ⟨z1, zf1⟩ := HB.out.zc _ x1
  obtain ⟨y1, yf1⟩ := HB.out.yc _ x1
  go_wp2
  refine bodyPost_ret (v := .tuple #[.agg #[.slice none 0 0], .agg #[.slice none 0 0], .int .i64 12]) (by obtain ⟨e1, e2⟩ := two_cells (u := .slice none 0 0) (v := .slice none 0 0) z1 y1 (by simp); simp [results, Tryd.results73, go_sem, e1, e2]) rfl ?_
  exact ⟨rfl, ((HB.out.ext.trans x1).setCell (by show w.heap.size ≤ w.heap.size + 1 + 1; omega) _).setCell (by show w.heap.size ≤ w.heap.size + 1 + 1 + 1; omega) _⟩

/-- What 'DivMod' answers to a divisor that is not 0. -/
def DivModR (w : World) (a b : Nat) (e : Ending) (w' : World) : Prop := ∃ A k c A' k' c', e = .returned (.tuple #[.agg #[.slice A k c], .agg #[.slice A' k' c'], .int .i64 0]) ∧ CanV w' (.slice A k c) (a / b) ∧ CanV w' (.slice A' k' c') (a % b) ∧ Ext w w' ∧ New w.heap.size (.slice A k c) ∧ New w.heap.size (.slice A' k' c')

set_option maxHeartbeats 1000000 in
theorem divmod_pos {x y : Value} {a b : Nat} {w : World} (hx : NatV w x a) (hy : NatV w y b) (hb : 0 < b) (hl : (limbsOf a).length ≤ 2199023255552) :
    Calls Tryd.prog 73 #[.agg #[x], .agg #[y]] w (DivModR w a b) := by
  go_enter Tryd.func73, Tryd.ntmps73
  go_upto_region 1 with (fail)
  have hB := box4 w x y 30
  generalize (((w.alloc (.cells #[x] 30)).alloc (.cells #[y] 30)).alloc (.cells #[.slice none 0 0] 30)).alloc (.cells #[.slice none 0 0] 30) = W0 at *
  have hy0 : NatV W0 y b := hy.below hB.ext
  have hx0 : NatV W0 x a := hx.below hB.ext
  obtain ⟨_, hyc⟩ := hB.rd W0 (Below.refl _ _)
  have HB := Lib.hid hB
  clear hB
  go_wp2_with fail
  refine (limbs_n hy0).mono ?_
  rintro e w1 ⟨v1, rfl, h1, x1, n1⟩
  obtain ⟨A1, c1, rfl, _, _, _⟩ := id h1
  have hlp := limbs_pos_len hb
  obtain ⟨hxc1, _⟩ := HB.out.rd w1 (x1.mono (by have := HB.out.size; omega))
  go_wp2_with fail
  refine (limbs_n (hx0.below x1)).mono ?_
  rintro e w2 ⟨v2, rfl, h2, x2, n2⟩
  have hs2 : w.heap.size + 1 + 1 + 1 < w2.heap.size := by have := HB.out.size; have := x1.size; have := x2.size; omega
  have hs1 : w.heap.size + 1 + 1 + 1 < w1.heap.size := by have := HB.out.size; have := x1.size; omega
  go_wp2_with fail
  refine (divide_any n2 x2.size h2 (h1.below x2) hb hl).mono ?_
  rintro e w3 ⟨q, r, rfl, hq, hr, x3, nq, nr⟩
  go_wp2_with fail
  refine (made_c hq nq).mono ?_
  rintro e w4 ⟨A4, k4, c4, rfl, h4, x4, n4⟩
  go_wp2_with fail
  refine (made_c (hr.below x4) nr).mono ?_
  rintro e w5 ⟨A5, k5, c5, rfl, h5, x5, n5⟩
  have hx5 := ((x1.trans x2).trans x3).trans (x4.trans x5)
  obtain ⟨z5, zf5⟩ := HB.out.zc _ hx5
  obtain ⟨y5, yf5⟩ := HB.out.yc _ hx5
  go_wp2
  refine bodyPost_ret (v := .tuple #[.agg #[.slice A4 k4 c4], .agg #[.slice A5 k5 c5], .int .i64 0]) (by obtain ⟨e1, e2⟩ := two_cells (u := .slice A4 k4 c4) (v := .slice A5 k5 c5) z5 y5 (by simp); simp [results, Tryd.results73, go_sem, e1, e2]) rfl ?_
  refine ⟨_, _, _, _, _, _, rfl, ?_, ?_, ((HB.out.ext.trans hx5).setCell (by show w.heap.size ≤ w.heap.size + 1 + 1; omega) _).setCell (by show w.heap.size ≤ w.heap.size + 1 + 1 + 1; omega) _, n4.mono (by omega), n5.mono (by omega)⟩
  · exact ((h4.below x5).setNew n4 (by show w.heap.size + 1 + 1 < _; omega) _).setNew n4 (by show w.heap.size + 1 + 1 + 1 < _; omega) _
  · exact (U32s.setNew h5 n5 (by show w.heap.size + 1 + 1 < _; omega) _).setNew n5 (by show w.heap.size + 1 + 1 + 1 < _; omega) _

theorem ofLimbs_val (n : Nat) : val [n % 1000000000, n / 1000000000 % 1000000000, n / 1000000000 / 1000000000] = n := by simp only [val]; omega
theorem ofLimbs_digs {n : Nat} (h : n < 18446744073709551616) : Digs [n % 1000000000, n / 1000000000 % 1000000000, n / 1000000000 / 1000000000] := by
  intro x hx
  simp only [List.mem_cons, List.not_mem_nil, or_false] at hx
  rcases hx with rfl | rfl | rfl <;> omega

set_option maxHeartbeats 1000000 in
theorem of_n {n : Nat} {w : World} (hn : n < 18446744073709551616) :
    Calls Tryd.prog 71 #[.int .u64 n] w (GivesN w n) := by
  have hn' : (n : Int) < 18446744073709551616 := by omega
  go_enter Tryd.func71, Tryd.ntmps71
  go_wp2_with fail
  have hd := ofLimbs_digs hn
  have hv := ofLimbs_val n
  have hu : U32s ((w.alloc (.cells #[.slice none 0 0] 30)).alloc (.cells #[.int .u32 ((n : Int) % 1000000000), .int .u32 ((n : Int) / 1000000000 % 1000000000), .int .u32 ((n : Int) / 1000000000 / 1000000000)] 70))
      (.slice (some ⟨w.heap.size + 1, 0, none⟩) 3 3) [n % 1000000000, n / 1000000000 % 1000000000, n / 1000000000 / 1000000000] := by
    refine U32s.of_own (base := w.heap.size) (e := 70) ?_ (Nat.le_refl _) (by omega)
    have := World.ownsRow_lit (base := w.heap.size) (e := 70) (size := 1) (w.alloc (.cells #[.slice none 0 0] 30)) #[.int .u32 ((n : Int) % 1000000000), .int .u32 ((n : Int) / 1000000000 % 1000000000), .int .u32 ((n : Int) / 1000000000 / 1000000000)] 3 (by simp) (by unfold maxLen; omega) rfl
    simpa [u32s] using this
  have hxW : Ext w ((w.alloc (.cells #[.slice none 0 0] 30)).alloc (.cells #[.int .u32 ((n : Int) % 1000000000), .int .u32 ((n : Int) / 1000000000 % 1000000000), .int .u32 ((n : Int) / 1000000000 / 1000000000)] 70)) :=
    ((Below.refl _ _).alloc (Nat.le_refl _) _).alloc (by simp) _
  have hz : ∀ w', Ext ((w.alloc (.cells #[.slice none 0 0] 30)).alloc (.cells #[.int .u32 ((n : Int) % 1000000000), .int .u32 ((n : Int) / 1000000000 % 1000000000), .int .u32 ((n : Int) / 1000000000 / 1000000000)] 70)) w' →
      w'.cell? ⟨w.heap.size, 0, none⟩ = some (.slice none 0 0) ∧ w'.frozen? ⟨w.heap.size, 0, none⟩ = false := by
    intro w' h
    exact ⟨by rw [h.cell (by simp; omega)]; simp [go_sem, World.cell?_alloc_old], by rw [h.frozen (by simp; omega)]; simp [go_sem, World.frozen?_alloc_old]⟩
  generalize (w.alloc (.cells #[.slice none 0 0] 30)).alloc (.cells #[.int .u32 ((n : Int) % 1000000000), .int .u32 ((n : Int) / 1000000000 % 1000000000), .int .u32 ((n : Int) / 1000000000 / 1000000000)] 70) = W0 at *
  refine (made_any hu hd (New.at_ (Nat.le_refl _))).mono ?_
  rintro e w1 ⟨A1, k1, c1, rfl, h1, x1, n1⟩
  rw [hv] at h1
  clear hv hd
  obtain ⟨z1, zf1⟩ := hz _ x1
  clear hz
  go_wp2
  refine bodyPost_ret (v := .agg #[.slice A1 k1 c1]) (by simp [results, Tryd.results71, go_sem, World.cell?_setCell_same _ _ _ z1]) rfl ?_
  exact ⟨_, _, _, rfl, U32s.setNew h1 n1 (Nat.lt_succ_self _) _, (hxW.trans x1).setCell (Nat.le_refl _) _, n1.mono (by omega)⟩

end Go.Proofs.YtkjcbfaimonaoaaDoor
