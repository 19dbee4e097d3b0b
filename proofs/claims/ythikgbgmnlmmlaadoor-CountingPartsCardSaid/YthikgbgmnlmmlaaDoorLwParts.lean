/- The walk of CountingParts. -/
import Derived.Test.YthikgbgmnlmmlaaDoorLwChoices
import Derived.Test.YthikgbgmnlmmlaaDoorBell2
set_option linter.unusedVariables false
set_option linter.unusedSimpArgs false
set_option maxRecDepth 100000
namespace Go.Proofs.YthikgbgmnlmmlaaDoor
open Go.RowKit Num

set_option maxHeartbeats 4000000 in
theorem law_CountingParts {n k : Int} {w : World} : Calls Tryd.prog 8 #[.int .i64 n, .int .i64 k] w (fun e w' => e = .returned (.bool true) ∧ Ext w w') := by
  have H0 := Lib.hid (fun w => cstir_any (n := n) (k := k) (w := w))
  have H1 := Lib.hid (fun w => rstir_any (n := n) (k := k) (w := w))
  have H2 := Lib.hid (fun w => csj_any (n := n) (k := k) (w := w))
  have H3 := Lib.hid (fun w => rsj_any (n := n) (k := k) (w := w))
  have H4 := Lib.hid (fun w => cbl_any (n := n) (w := w))
  have H5 := Lib.hid (fun w => rbl_any (n := n) (w := w))
  generalize stV n k = v0 at *
  generalize sjV n k = v2 at *
  generalize blV n = v4 at *
  generalize okE (0 ≤ n ∧ n ≤ 64) = er0 at *
  generalize okE ((0 ≤ n ∧ n ≤ 64) ∧ (0 ≤ k ∧ k ≤ 64)) = er2 at *
  go_enter Tryd.func8, Tryd.ntmps8
  go_wp2_with (go_at_call 12; (with_reducible refine awake_true.mono ?_); rintro e w0 ⟨rfl, x0⟩)
  have E0 : Ext w w0 := x0
  clear x0
  refine (H0.out _).mono ?_
  rintro e u0 ⟨A0, k0, c0, rfl, h0, x0, _⟩
  have y0 := ext_alloc x0 (.cells #[.slice A0 k0 c0] 25)
  have p0 := CanV.alloc h0 (.cells #[.slice A0 k0 c0] 25)
  have b0 : (u0.alloc (.cells #[.slice A0 k0 c0] 25)).cell? ⟨u0.heap.size, 0, none⟩ = some (.slice A0 k0 c0) := by simp [go_sem]
  have E1 := Ext.trans E0 y0
  clear x0 h0 y0
  go_wp2_with fail
  generalize u0.alloc (.cells #[.slice A0 k0 c0] 25) = w1 at *
  refine (H1.out _).mono ?_
  rintro e u1 ⟨A1, k1, c1, rfl, h1, x1, _⟩
  have y1 := ext_alloc x1 (.cells #[.slice A1 k1 c1] 25)
  have p1 := CanV.alloc h1 (.cells #[.slice A1 k1 c1] 25)
  have b1 : (u1.alloc (.cells #[.slice A1 k1 c1] 25)).cell? ⟨u1.heap.size, 0, none⟩ = some (.slice A1 k1 c1) := by simp [go_sem]
  have p0 := CanV.below p0 y1
  have b0 := (y1.cell (p := ⟨u0.heap.size, 0, none⟩) (World.block_lt_of_cell? _ _ b0)).trans b0
  have E2 := Ext.trans E1 y1
  clear x1 h1 y1
  go_wp2_with fail
  generalize u1.alloc (.cells #[.slice A1 k1 c1] 25) = w2 at *
  refine (H2.out _).mono ?_
  rintro e u2 ⟨A2, k2, c2, rfl, h2, x2, _⟩
  have y2 := ext_alloc x2 (.cells #[.slice A2 k2 c2] 25)
  have p2 := CanV.alloc h2 (.cells #[.slice A2 k2 c2] 25)
  have b2 : (u2.alloc (.cells #[.slice A2 k2 c2] 25)).cell? ⟨u2.heap.size, 0, none⟩ = some (.slice A2 k2 c2) := by simp [go_sem]
  have p0 := CanV.below p0 y2
  have b0 := (y2.cell (p := ⟨u0.heap.size, 0, none⟩) (World.block_lt_of_cell? _ _ b0)).trans b0
  have p1 := CanV.below p1 y2
  have b1 := (y2.cell (p := ⟨u1.heap.size, 0, none⟩) (World.block_lt_of_cell? _ _ b1)).trans b1
  have E3 := Ext.trans E2 y2
  clear x2 h2 y2
  go_wp2_with fail
  generalize u2.alloc (.cells #[.slice A2 k2 c2] 25) = w3 at *
  refine (H3.out _).mono ?_
  rintro e u3 ⟨A3, k3, c3, rfl, h3, x3, _⟩
  have y3 := ext_alloc x3 (.cells #[.slice A3 k3 c3] 25)
  have p3 := CanV.alloc h3 (.cells #[.slice A3 k3 c3] 25)
  have b3 : (u3.alloc (.cells #[.slice A3 k3 c3] 25)).cell? ⟨u3.heap.size, 0, none⟩ = some (.slice A3 k3 c3) := by simp [go_sem]
  have p0 := CanV.below p0 y3
  have b0 := (y3.cell (p := ⟨u0.heap.size, 0, none⟩) (World.block_lt_of_cell? _ _ b0)).trans b0
  have p1 := CanV.below p1 y3
  have b1 := (y3.cell (p := ⟨u1.heap.size, 0, none⟩) (World.block_lt_of_cell? _ _ b1)).trans b1
  have p2 := CanV.below p2 y3
  have b2 := (y3.cell (p := ⟨u2.heap.size, 0, none⟩) (World.block_lt_of_cell? _ _ b2)).trans b2
  have E4 := Ext.trans E3 y3
  clear x3 h3 y3
  go_wp2_with fail
  generalize u3.alloc (.cells #[.slice A3 k3 c3] 25) = w4 at *
  refine (H4.out _).mono ?_
  rintro e u4 ⟨A4, k4, c4, rfl, h4, x4, _⟩
  have y4 := ext_alloc x4 (.cells #[.slice A4 k4 c4] 25)
  have p4 := CanV.alloc h4 (.cells #[.slice A4 k4 c4] 25)
  have b4 : (u4.alloc (.cells #[.slice A4 k4 c4] 25)).cell? ⟨u4.heap.size, 0, none⟩ = some (.slice A4 k4 c4) := by simp [go_sem]
  have p0 := CanV.below p0 y4
  have b0 := (y4.cell (p := ⟨u0.heap.size, 0, none⟩) (World.block_lt_of_cell? _ _ b0)).trans b0
  have p1 := CanV.below p1 y4
  have b1 := (y4.cell (p := ⟨u1.heap.size, 0, none⟩) (World.block_lt_of_cell? _ _ b1)).trans b1
  have p2 := CanV.below p2 y4
  have b2 := (y4.cell (p := ⟨u2.heap.size, 0, none⟩) (World.block_lt_of_cell? _ _ b2)).trans b2
  have p3 := CanV.below p3 y4
  have b3 := (y4.cell (p := ⟨u3.heap.size, 0, none⟩) (World.block_lt_of_cell? _ _ b3)).trans b3
  have E5 := Ext.trans E4 y4
  clear x4 h4 y4
  go_wp2_with fail
  generalize u4.alloc (.cells #[.slice A4 k4 c4] 25) = w5 at *
  refine (H5.out _).mono ?_
  rintro e u5 ⟨A5, k5, c5, rfl, h5, x5, _⟩
  have y5 := ext_alloc x5 (.cells #[.slice A5 k5 c5] 25)
  have p5 := CanV.alloc h5 (.cells #[.slice A5 k5 c5] 25)
  have b5 : (u5.alloc (.cells #[.slice A5 k5 c5] 25)).cell? ⟨u5.heap.size, 0, none⟩ = some (.slice A5 k5 c5) := by simp [go_sem]
  have p0 := CanV.below p0 y5
  have b0 := (y5.cell (p := ⟨u0.heap.size, 0, none⟩) (World.block_lt_of_cell? _ _ b0)).trans b0
  have p1 := CanV.below p1 y5
  have b1 := (y5.cell (p := ⟨u1.heap.size, 0, none⟩) (World.block_lt_of_cell? _ _ b1)).trans b1
  have p2 := CanV.below p2 y5
  have b2 := (y5.cell (p := ⟨u2.heap.size, 0, none⟩) (World.block_lt_of_cell? _ _ b2)).trans b2
  have p3 := CanV.below p3 y5
  have b3 := (y5.cell (p := ⟨u3.heap.size, 0, none⟩) (World.block_lt_of_cell? _ _ b3)).trans b3
  have p4 := CanV.below p4 y5
  have b4 := (y5.cell (p := ⟨u4.heap.size, 0, none⟩) (World.block_lt_of_cell? _ _ b4)).trans b4
  have E6 := Ext.trans E5 y5
  clear x5 h5 y5
  go_upto_region 9 with (fail)
  generalize u5.alloc (.cells #[.slice A5 k5 c5] 25) = w6 at *
  go_wp2_with fail
  refine (same_true p0 p1).mono ?_
  rintro e s0 ⟨rfl, t0⟩
  have p2 := CanV.below p2 t0
  have b2 := (t0.cell (p := ⟨u2.heap.size, 0, none⟩) (World.block_lt_of_cell? _ _ b2)).trans b2
  have p3 := CanV.below p3 t0
  have b3 := (t0.cell (p := ⟨u3.heap.size, 0, none⟩) (World.block_lt_of_cell? _ _ b3)).trans b3
  have p4 := CanV.below p4 t0
  have b4 := (t0.cell (p := ⟨u4.heap.size, 0, none⟩) (World.block_lt_of_cell? _ _ b4)).trans b4
  have p5 := CanV.below p5 t0
  have b5 := (t0.cell (p := ⟨u5.heap.size, 0, none⟩) (World.block_lt_of_cell? _ _ b5)).trans b5
  have E7 := Ext.trans E6 t0
  clear p0 p1 b0 b1 t0
  go_wp2_with fail
  refine (same_true p2 p3).mono ?_
  rintro e s2 ⟨rfl, t2⟩
  have p4 := CanV.below p4 t2
  have b4 := (t2.cell (p := ⟨u4.heap.size, 0, none⟩) (World.block_lt_of_cell? _ _ b4)).trans b4
  have p5 := CanV.below p5 t2
  have b5 := (t2.cell (p := ⟨u5.heap.size, 0, none⟩) (World.block_lt_of_cell? _ _ b5)).trans b5
  have E9 := Ext.trans E7 t2
  clear p2 p3 b2 b3 t2
  go_wp2_with fail
  refine (same_true p4 p5).mono ?_
  rintro e s4 ⟨rfl, t4⟩
  have E11 := Ext.trans E9 t4
  clear p4 p5 b4 b5 t4
  go_wp2
  go_ret
  exact ⟨rfl, E11⟩

end Go.Proofs.YthikgbgmnlmmlaaDoor
