/- The walk of CountingChoices. -/
import Derived.Test.YthikgbgmnlmmlaaDoorSame
set_option linter.unusedVariables false
set_option linter.unusedSimpArgs false
set_option maxRecDepth 100000
namespace Go.Proofs.YthikgbgmnlmmlaaDoor
open Go.RowKit Num

/-- A box of one cell behind a call: what it holds, later. -/
theorem box_kept {w w1 : World} {v : Value} {t : TypeId} (x : Ext (w.alloc (.cells #[v] t)) w1) : w1.cell? ⟨w.heap.size, 0, none⟩ = some v := (box_new x).1

set_option maxHeartbeats 1000000 in
theorem law_CountingChoices {n k : Int} {w : World} : Calls Tryd.prog 3 #[.int .i64 n, .int .i64 k] w (fun e w' => e = .returned (.bool true) ∧ Ext w w') := by
  have HC := Lib.hid (fun w => cbin_any (n := n) (k := k) (w := w))
  have HR := Lib.hid (fun w => rbin_any (n := n) (k := k) (w := w))
  generalize binV n k = v at *
  generalize okE (0 ≤ n ∧ n ≤ 300) = er at *
  go_enter Tryd.func3, Tryd.ntmps3
  go_wp2_with (go_at_call 12; (with_reducible refine awake_true.mono ?_); rintro e w1 ⟨rfl, x1⟩)
  refine (HC.out _).mono ?_
  rintro e w2 ⟨A2, k2, c2, rfl, h2, x2, n2⟩
  have e2 := Ext.trans x1 x2
  clear x1 x2 n2
  go_wp2_with fail
  have p2 := h2.alloc (.cells #[.slice A2 k2 c2] 25)
  refine (HR.out _).mono ?_
  rintro e w3 ⟨A3, k3, c3, rfl, h3, x3, n3⟩
  have b3 := box_kept x3
  have p3 := p2.below x3
  have e3 := Ext.trans e2 (ext_new x3)
  have hlt : w2.heap.size < w3.heap.size := World.block_lt_of_cell? _ _ b3
  clear p2 x3 n3 e2
  go_wp2_with (go_at_call 15; (with_reducible refine (same_true (CanV.alloc p3 _) (CanV.alloc h3 _)).mono ?_); rintro e w4 ⟨rfl, x4⟩)
  go_wp2
  go_ret
  exact ⟨rfl, e3.trans (ext_new x4)⟩

end Go.Proofs.YthikgbgmnlmmlaaDoor
