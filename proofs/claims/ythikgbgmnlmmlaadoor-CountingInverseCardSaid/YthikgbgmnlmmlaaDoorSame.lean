/- base.Natural, same, awake. -/
import Derived.Test.YthikgbgmnlmmlaaDoorRankA
import Derived.Test.YthikgbgmnlmmlaaDoorText
set_option linter.unusedVariables false
set_option linter.unusedSimpArgs false
set_option maxRecDepth 100000
namespace Go.Proofs.YthikgbgmnlmmlaaDoor
open Go.RowKit Num

set_option maxHeartbeats 1000000 in
/-- Two canonical Naturals of one value are the same limb by limb. -/
theorem bnat_same {x y : Value} {n : Nat} {w : World} (hx : CanV w x n) (hy : CanV w y n) :
    Calls Tryd.prog 29 #[.agg #[x], .agg #[y]] w (fun e w' => e = .returned (.bool true) ∧ Ext w w') := by
  obtain ⟨A, ca, rfl, a1, a2, a3⟩ := hx
  obtain ⟨B, cb, rfl, b1, b2, b3⟩ := hy
  generalize limbsOf n = xs at *
  go_enter Tryd.func29, Tryd.ntmps29
  go_upto_region 1 with (fail)
  have hB0 : Boxes w ((w.alloc (.cells #[.slice A xs.length ca] 25)).alloc (.cells #[.slice B xs.length cb] 25)) [[.slice A xs.length ca], [.slice B xs.length cb]] := ((Boxes.nil_ w).alloc rfl [.slice A xs.length ca] 25).alloc (by simp) [.slice B xs.length cb] 25
  generalize (w.alloc (.cells #[.slice A xs.length ca] 25)).alloc (.cells #[.slice B xs.length cb] 25) = W0 at *
  obtain ⟨cx, fx⟩ : W0.cell? ⟨w.heap.size, 0, none⟩ = some (.slice A xs.length ca) ∧ W0.frozen? ⟨w.heap.size, 0, none⟩ = false := hB0.cell 0 _ 0 _ rfl rfl
  obtain ⟨cy, fy⟩ : W0.cell? ⟨w.heap.size + 1, 0, none⟩ = some (.slice B xs.length cb) ∧ W0.frozen? ⟨w.heap.size + 1, 0, none⟩ = false := hB0.cell 1 _ 0 _ rfl rfl
  have hE := hB0.ext
  have r1 := a3.below hE
  have r2 := b3.below hE
  clear hB0 a3 b3
  go_wp2
  go_loopw [5] (fun iv wr => ∃ k : Nat, k ≤ xs.length ∧ iv = .int .i64 k ∧ Ext W0 wr) (fun iv _ => xs.length - (intOf iv).toNat)
  case atStart => exact ⟨0, Nat.zero_le _, rfl, Below.refl _ _⟩
  case round =>
    obtain ⟨k, hk, rfl, hx⟩ := hrel
    have cxr := (hx.cell (p := ⟨w.heap.size, 0, none⟩) (World.block_lt_of_cell? _ _ cx)).trans cx
    have cyr := (hx.cell (p := ⟨w.heap.size + 1, 0, none⟩) (World.block_lt_of_cell? _ _ cy)).trans cy
    by_cases hkl : k < xs.length
    · obtain ⟨ad, u, rfl, hb1, hu1, hc1⟩ := (r1.below hx).at_ (k := k) (by omega)
      obtain ⟨bd, v, rfl, hb2, hv1, hc2⟩ := (r2.below hx).at_ (k := k) (by omega)
      rw [hu1] at hv1
      cases hv1
      have hu2 : u = .int .u32 (xs[k] : Int) := by simpa [u32s, hkl] using hu1.symm
      subst hu2
      clear hu1
      generalize (xs[k] : Int) = z at *
      go_wp2
      go_quiet (fail)
      go_wp2
      go_roundw
      case rel => exact ⟨k + 1, by omega, by go_num, hx.drewN _⟩
      case measure => simp [intOf]; omega
    · go_wp2
      go_ret
      exact ⟨rfl, hE.trans hx⟩

set_option maxHeartbeats 1000000 in
theorem same_true {x y : Value} {n : Nat} {er : Int} {w : World} (hx : CanV w x n) (hy : CanV w y n) :
    Calls Tryd.prog 15 #[.agg #[x], .int .i64 er, .agg #[y], .int .i64 er] w (fun e w' => e = .returned (.bool true) ∧ Ext w w') := by
  go_enter Tryd.func15, Tryd.ntmps15
  go_upto_region 1 with (fail)
  have hB0 : Boxes w ((w.alloc (.cells #[x] 25)).alloc (.cells #[y] 25)) [[x], [y]] := ((Boxes.nil_ w).alloc rfl [x] 25).alloc (by simp) [y] 25
  generalize (w.alloc (.cells #[x] 25)).alloc (.cells #[y] 25) = W0 at *
  obtain ⟨cx, fx⟩ : W0.cell? ⟨w.heap.size, 0, none⟩ = some x ∧ W0.frozen? ⟨w.heap.size, 0, none⟩ = false := hB0.cell 0 _ 0 _ rfl rfl
  obtain ⟨cy, fy⟩ : W0.cell? ⟨w.heap.size + 1, 0, none⟩ = some y ∧ W0.frozen? ⟨w.heap.size + 1, 0, none⟩ = false := hB0.cell 1 _ 0 _ rfl rfl
  have hE := hB0.ext
  have r1 := hx.below hE
  have r2 := hy.below hE
  clear hB0 hx hy
  go_wp2_with (go_at_call 29; (with_reducible refine (bnat_same r1 r2).mono ?_); rintro e w1 ⟨rfl, x1⟩)
  go_ret
  exact ⟨rfl, hE.trans x1⟩

theorem dig7 : Lib.decDigits 7 = [55] := by simp [Lib.decDigits]
theorem dig2 : Lib.decDigits 2 = [50] := by simp [Lib.decDigits]
theorem dig20 : Lib.decDigits 20 = [50, 48] := by simp [Lib.decDigits]

theorem st42 {w : World} : Calls Tryd.prog 19 #[.int .i64 4, .int .i64 2] w (GivesT w 7 0) := cstir_in (n := 4) (k := 2) (by omega) (by omega)
theorem bin63 {w : World} : Calls Tryd.prog 13 #[.int .i64 6, .int .i64 3] w (GivesT w 20 0) := cbin_ok (n := 6) (k := 3) (by omega) (by omega)
theorem lit03 (w : World) : Reads (w.alloc (.cells #[.int .i64 0, .int .i64 3] 3)) 1 (some ⟨w.heap.size, 0, none⟩) (ints [0, 3]).length (i64s (ints [0, 3])) := by
  have := World.ownsRow_lit (base := w.heap.size) (e := 3) (size := 1) w #[.int .i64 0, .int .i64 3] 2 (Nat.le_refl _) (by unfold maxLen; omega) rfl
  exact Reads.of_own this
theorem rank03 {b : Nat} (w0 : World) (hb : b = w0.heap.size) : Calls Tryd.prog 16 #[.int .i64 4, .slice (some ⟨b, 0, none⟩) 2 2] (w0.alloc (.cells #[.int .i64 0, .int .i64 3] 3)) (GivesT (w0.alloc (.cells #[.int .i64 0, .int .i64 3] 3)) 2 0) := by
  subst hb
  exact crank_good (n := 4) (cs := [0, 3]) (by omega) (lit03 w0) (by simp [Asc]) (by simp)

set_option maxHeartbeats 2000000 in
theorem awake_true {w : World} : Calls Tryd.prog 12 #[] w (fun e w' => e = .returned (.bool true) ∧ Ext w w') := by
  go_enter Tryd.func12, Tryd.ntmps12
  go_wp2_with fail
  refine st42.mono ?_
  rintro e w1 ⟨A1, k1, c1, rfl, h1, x1, _⟩
  go_wp2_with fail
  have hx1 : Ext w (w1.alloc (.cells #[.slice A1 k1 c1] 25)) := ext_alloc x1 _
  have g1 := h1.alloc (.cells #[.slice A1 k1 c1] 25)
  have b1 : (w1.alloc (.cells #[.slice A1 k1 c1] 25)).cell? ⟨w1.heap.size, 0, none⟩ = some (.slice A1 k1 c1) := by simp [go_sem]
  refine (rank03 (w1.alloc (.cells #[.slice A1 k1 c1] 25)) (by simp)).mono ?_
  rintro e w2 ⟨A2, k2, c2, rfl, h2, x2, _⟩
  have e2 := ext_new x2
  have hx2 := hx1.trans e2
  have g2 := g1.below e2
  have b2 := (e2.cell (p := ⟨w1.heap.size, 0, none⟩) (World.block_lt_of_cell? _ _ b1)).trans b1
  clear b1 g1 x2 h1 x1 e2 hx1
  go_wp2_with fail
  have hx3 := ext_alloc hx2 (.cells #[.slice A2 k2 c2] 25)
  have p1 := CanV.alloc g2 (.cells #[.slice A2 k2 c2] 25)
  have p2 := h2.alloc (.cells #[.slice A2 k2 c2] 25)
  have q1 := ((ext_alloc (Below.refl _ w2) (.cells #[.slice A2 k2 c2] 25)).cell (p := ⟨w1.heap.size, 0, none⟩) (World.block_lt_of_cell? _ _ b2)).trans b2
  have q2 : (w2.alloc (.cells #[.slice A2 k2 c2] 25)).cell? ⟨w2.heap.size, 0, none⟩ = some (.slice A2 k2 c2) := by simp [go_sem]
  clear b2 g2 h2 hx2
  generalize w2.alloc (.cells #[.slice A2 k2 c2] 25) = W2 at *
  refine bin63.mono ?_
  rintro e w3 ⟨A3, k3, c3, rfl, h3, x3, _⟩
  have e3 := ext_alloc x3 (.cells #[.slice A3 k3 c3] 25)
  have p1 := CanV.below p1 e3
  have p2 := p2.below e3
  have p3 := h3.alloc (.cells #[.slice A3 k3 c3] 25)
  have q1 := (e3.cell (p := ⟨w1.heap.size, 0, none⟩) (World.block_lt_of_cell? _ _ q1)).trans q1
  have q2 := (e3.cell (p := ⟨w2.heap.size, 0, none⟩) (World.block_lt_of_cell? _ _ q2)).trans q2
  have q3 : (w3.alloc (.cells #[.slice A3 k3 c3] 25)).cell? ⟨w3.heap.size, 0, none⟩ = some (.slice A3 k3 c3) := by simp [go_sem]
  have hx4 := Ext.trans hx3 e3
  clear h3 x3 hx3 e3
  go_upto_region 4 with (fail)
  generalize w3.alloc (.cells #[.slice A3 k3 c3] 25) = W3 at *
  go_wp2_with fail
  refine (text_small p1 (by omega) (by omega)).mono ?_
  rintro e w4 ⟨rfl, x4⟩
  rw [dig7]
  have p2 := CanV.below p2 x4
  have p3 := CanV.below p3 x4
  have q2 := (x4.cell (p := ⟨w2.heap.size, 0, none⟩) (World.block_lt_of_cell? _ _ q2)).trans q2
  have q3 := (x4.cell (p := ⟨w3.heap.size, 0, none⟩) (World.block_lt_of_cell? _ _ q3)).trans q3
  clear p1 q1
  go_wp2_with fail
  refine (text_small p2 (by omega) (by omega)).mono ?_
  rintro e w5 ⟨rfl, x5⟩
  rw [dig2]
  have p3 := CanV.below p3 x5
  have q3 := (x5.cell (p := ⟨w3.heap.size, 0, none⟩) (World.block_lt_of_cell? _ _ q3)).trans q3
  clear p2 q2
  go_wp2_with fail
  refine (text_small p3 (by omega) (by omega)).mono ?_
  rintro e w6 ⟨rfl, x6⟩
  rw [dig20]
  clear p3 q3
  go_wp2
  go_ret
  exact ⟨rfl, (hx4.trans x4).trans (x5.trans x6)⟩

end Go.Proofs.YthikgbgmnlmmlaaDoor
