/- The walk of CountingRanks. -/
import Derived.Test.YthikgbgmnlmmlaaDoorLwChoices
import Derived.Test.YthikgbgmnlmmlaaDoorRankC
import Derived.Test.YthikgbgmnlmmlaaDoorKeep
set_option linter.unusedVariables false
set_option linter.unusedSimpArgs false
set_option maxRecDepth 100000
namespace Go.Proofs.YthikgbgmnlmmlaaDoor
open Go.RowKit Num

set_option maxHeartbeats 2000000 in
theorem law_CountingRanks {n : Int} {v : Value} {zs : List Int} {w : World} (hv : KInts .i64 w v zs) :
    Calls Tryd.prog 4 #[.int .i64 n, v] w (fun e w' => e = .returned (.bool true) ∧ Ext w w') := by
  obtain ⟨A, cap, rfl, h1, h2, hr, _⟩ := hv
  have hr : Reads w 1 A zs.length (i64s zs) := hr
  by_cases hl : 80 < zs.length
  · clear hr
    go_enter Tryd.func4, Tryd.ntmps4
    go_wp2_with (go_at_call 12; (with_reducible refine awake_true.mono ?_); rintro e w1 ⟨rfl, x1⟩; have y1 : Ext w w1 := by first | exact x1 | exact Ext.trans y1 x1)
    go_ret
    exact ⟨rfl, y1⟩
  · obtain ⟨q, er, hq⟩ := ranks_any n zs (by omega)
    have HR := Lib.hid hr
    have HQ := Lib.hid hq
    clear hr hq
    go_enter Tryd.func4, Tryd.ntmps4
    go_wp2_with (go_at_call 12; (with_reducible refine awake_true.mono ?_); rintro e w1 ⟨rfl, x1⟩)
    refine (HQ.out A cap _ (HR.out.below x1)).1.mono ?_
    rintro e w2 ⟨A2, k2, c2, rfl, p2, x2, _⟩
    have e2 := Ext.trans x1 x2
    clear x1 x2
    go_wp2_with fail
    have q2 := p2.alloc (.cells #[.slice A2 k2 c2] 25)
    refine (HQ.out A cap _ (HR.out.below (ext_alloc e2 _))).2.mono ?_
    rintro e w3 ⟨A3, k3, c3, rfl, p3, x3, _⟩
    have b3 := box_kept x3
    have q3 := q2.below x3
    have e3 := Ext.trans e2 (ext_new x3)
    have hlt : w2.heap.size < w3.heap.size := World.block_lt_of_cell? _ _ b3
    clear p2 q2 x3 e2
    go_wp2_with (go_at_call 15; (with_reducible refine (same_true (CanV.alloc q3 _) (CanV.alloc p3 _)).mono ?_); rintro e w4 ⟨rfl, x4⟩)
    go_wp2
    go_ret
    exact ⟨rfl, e3.trans (ext_new x4)⟩

end Go.Proofs.YthikgbgmnlmmlaaDoor
