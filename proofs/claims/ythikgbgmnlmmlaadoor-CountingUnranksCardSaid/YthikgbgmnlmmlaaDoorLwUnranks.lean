/- The walk of CountingUnranks. -/
import Derived.Test.YthikgbgmnlmmlaaDoorLwChoices
import Derived.Test.YthikgbgmnlmmlaaDoorUnr
import Derived.Test.YthikgbgmnlmmlaaDoorKeepN
set_option linter.unusedVariables false
set_option linter.unusedSimpArgs false
set_option maxRecDepth 100000
namespace Go.Proofs.YthikgbgmnlmmlaaDoor
open Go.RowKit Num

set_option maxHeartbeats 2000000 in
theorem law_CountingUnranks {n k : Int} {v : Value} {z : Nat × Nat} {w : World} (hv : KNat w v z.1 z.2) :
    Calls Tryd.prog 9 #[.int .i64 n, .int .i64 k, v] w (fun e w' => e = .returned (.bool true) ∧ Ext w w') := by
  obtain ⟨m, rr⟩ := z
  obtain ⟨s, rfl, hs⟩ := hv
  simp only at hs
  obtain ⟨A, c, rfl⟩ := hs.form
  by_cases hl : 8 < m
  · go_enter Tryd.func9, Tryd.ntmps9
    go_wp2_with (go_at_call 12; (with_reducible refine awake_true.mono ?_); rintro e w1 ⟨rfl, x1⟩; first | (have b1 := box_kept x1; have y1 := ext_new x1) | have y1 := Ext.trans y1 x1)
    go_ret
    exact ⟨rfl, y1⟩
  · obtain ⟨zs, er, hq⟩ := unrs_any n k rr
    have HR := Lib.hid (hs.nat (by omega))
    have HQ := Lib.hid hq
    clear hs hq
    go_enter Tryd.func9, Tryd.ntmps9
    go_wp2_with (go_at_call 12; (with_reducible refine awake_true.mono ?_); rintro e w1 ⟨rfl, x1⟩; have b1 := box_kept x1; have y1 := ext_new x1)
    refine (HQ.out _ _ (NatV.below HR.out y1)).1.mono ?_
    rintro e w2 ⟨A2, c2, rfl, p2, x2, _⟩
    have b2 := (x2.cell (p := ⟨w.heap.size, 0, none⟩) (World.block_lt_of_cell? _ _ b1)).trans b1
    have y2 := Ext.trans y1 x2
    clear x1 b1 x2 y1
    go_wp2_with fail
    refine (HQ.out _ _ (NatV.below HR.out y2)).2.mono ?_
    rintro e w3 ⟨A3, c3, rfl, p3, x3, _⟩
    have q2 := p2.below x3
    have y3 := Ext.trans y2 x3
    clear p2 x3 y2 b2
    go_wp2_with (go_at_call 36; (with_reducible refine (bints_same q2 p3).mono ?_); rintro e w4 ⟨rfl, x4⟩)
    go_wp2
    go_ret
    exact ⟨rfl, y3.trans x4⟩

end Go.Proofs.YthikgbgmnlmmlaaDoor
