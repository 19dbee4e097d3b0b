/- estimator: errors of Chao and Jackknife. -/
import Derived.Test.YtkjcbfaimonaoaaDoorEst
set_option linter.unusedVariables false
set_option linter.unusedSimpArgs false
set_option maxRecDepth 100000
namespace Go.Proofs.YtkjcbfaimonaoaaDoor
open Go.RowKit Num

set_option maxHeartbeats 1000000 in
theorem echao_no {zs : List Int} {x : Value} {w : World} (hx : IntsV w x zs) (hs : ¬ Samp zs) : Calls Tryd.prog 28 #[x] w (GivesFN w 1) := by
  go_enter Tryd.func28, Tryd.ntmps28
  go_upto_region 1 with (fail)
  have hF0 := FBox.new w (.bool false) (.slice none 0 0) (.slice none 0 0) 32
  have x0 : Ext w (w.alloc (.cells #[.bool false, .slice none 0 0, .slice none 0 0] 32)) := ext_alloc (Below.refl _ _) _
  have hX := hx.below x0
  generalize w.alloc (.cells #[.bool false, .slice none 0 0, .slice none 0 0] 32) = W0 at *
  have HF := Lib.hid (fun (w' : World) (h : Ext W0 w') => hF0.below h)
  clear hF0
  go_upto_region 2 with (go_at_call 39; (with_reducible refine (read_no hX hs).mono ?_); rintro e w1 ⟨rfl, x1⟩)
  have x2 : Ext W0 (w1.alloc smz) := ext_alloc x1 _
  generalize w1.alloc (.cells #[.int .i64 0, .int .i64 0, .slice none 0 0] 52) = W1 at *
  generalize w1.heap.size = B at *
  obtain ⟨r0, r1, r2, g0, g1, g2⟩ := HF.out _ x2
  go_wp2
  obtain ⟨q0, q1, q2⟩ := set3 r0 r1 r2 (.bool false) (.slice none 0 0) (.slice none 0 0)
  refine bodyPost_ret (v := .tuple #[.agg #[.bool false, .slice none 0 0, .slice none 0 0], .int .i64 1]) (by simp [results, Tryd.results28, go_sem, q0, q1, q2]) rfl ?_
  exact ⟨rfl, ext_put (x0.trans x2) (Nat.le_refl _) _ _ _⟩

set_option maxHeartbeats 1000000 in
theorem ejack_no {zs : List Int} {x : Value} {w : World} (hx : IntsV w x zs) (hs : ¬ Samp zs) : Calls Tryd.prog 30 #[x] w (GivesFN w 1) := by
  go_enter Tryd.func30, Tryd.ntmps30
  go_upto_region 1 with (fail)
  have hF0 := FBox.new w (.bool false) (.slice none 0 0) (.slice none 0 0) 32
  have x0 : Ext w (w.alloc (.cells #[.bool false, .slice none 0 0, .slice none 0 0] 32)) := ext_alloc (Below.refl _ _) _
  have hX := hx.below x0
  generalize w.alloc (.cells #[.bool false, .slice none 0 0, .slice none 0 0] 32) = W0 at *
  have HF := Lib.hid (fun (w' : World) (h : Ext W0 w') => hF0.below h)
  clear hF0
  go_upto_region 2 with (go_at_call 39; (with_reducible refine (read_no hX hs).mono ?_); rintro e w1 ⟨rfl, x1⟩)
  have x2 : Ext W0 (w1.alloc smz) := ext_alloc x1 _
  generalize w1.alloc (.cells #[.int .i64 0, .int .i64 0, .slice none 0 0] 52) = W1 at *
  generalize w1.heap.size = B at *
  obtain ⟨r0, r1, r2, g0, g1, g2⟩ := HF.out _ x2
  go_wp2
  obtain ⟨q0, q1, q2⟩ := set3 r0 r1 r2 (.bool false) (.slice none 0 0) (.slice none 0 0)
  refine bodyPost_ret (v := .tuple #[.agg #[.bool false, .slice none 0 0, .slice none 0 0], .int .i64 1]) (by simp [results, Tryd.results30, go_sem, q0, q1, q2]) rfl ?_
  exact ⟨rfl, ext_put (x0.trans x2) (Nat.le_refl _) _ _ _⟩

end Go.Proofs.YtkjcbfaimonaoaaDoor
