/- sampling: Split and Gain of what is no plan. -/
import Derived.Test.YtnedgbebajhcpaaDoorSamX
set_option linter.unusedVariables false
set_option linter.unusedSimpArgs false
set_option maxRecDepth 100000
namespace Go.Proofs.YtnedgbebajhcpaaDoor
open Go.RowKit Num

theorem split_arg {us : List Int} {m : Int} {A : Option Addr} {c : Nat} {w : World} (hu : ¬ ((1 ≤ us.length ∧ us.length ≤ 4) ∧ PlanIn us)) (hv : IntsV w (.slice A us.length c) us) :
    Calls Tryd.prog 16 #[.slice A us.length c, .int .i64 m] w (GivesIL w [] 1) := by
  have HV := Lib.hid (fun (w' : World) (h : Ext w w') => hv.below h)
  have HU := Lib.hid hu
  clear hu hv
  go_enter Tryd.func16, Tryd.ntmps16
  go_upto_region 1 with (fail)
  have q0 : (w.alloc (.cells #[.slice A us.length c] 36)).cell? ⟨w.heap.size, 0, none⟩ = some (.slice A us.length c) := by simp [go_sem]
  have x0 : Ext w (w.alloc (.cells #[.slice A us.length c] 36)) := ext_alloc (Below.refl _ _) _
  generalize w.alloc (.cells #[.slice A us.length c] 36) = W0 at *
  go_wp2_with (go_at_call 40; (with_reducible refine (splan_f (HV.out _ x0) HU.out).mono ?_); rintro e w1 ⟨rfl, hw1⟩; obtain rfl : W0 = w1 := hw1.symm)
  go_ret2
  exact ⟨none, 0, rfl, IntsV.nil_ _, x0⟩
theorem sGain_arg {us : List Int} {A B : Option Addr} {c n d : Nat} {w : World} (hu : ¬ ((1 ≤ us.length ∧ us.length ≤ 4) ∧ PlanIn us)) (hv : IntsV w (.slice A us.length c) us) :
    Calls Tryd.prog 17 #[.slice A us.length c, .slice B n d] w (GivesFN w 1) := by
  have HV := Lib.hid (fun (w' : World) (h : Ext w w') => hv.below h)
  have HU := Lib.hid hu
  clear hu hv
  go_enter Tryd.func17, Tryd.ntmps17
  go_upto_region 1 with (fail)
  have hF0 := FBox.new w (.bool false) (.slice none 0 0) (.slice none 0 0) 28
  have x0 : Ext w (w.alloc (.cells #[.bool false, .slice none 0 0, .slice none 0 0] 28)) := ext_alloc (Below.refl _ _) _
  have hs0 : w.heap.size + 1 ≤ (w.alloc (.cells #[.bool false, .slice none 0 0, .slice none 0 0] 28)).heap.size := by simp
  generalize w.alloc (.cells #[.bool false, .slice none 0 0, .slice none 0 0] 28) = W0 at *
  have HF := Lib.hid (fun (w' : World) (h : Ext W0 w') => hF0.below h)
  have HE := Lib.hid x0
  have f0 : Ext W0 W0 := Below.refl _ _
  obtain ⟨r0, r1, r2, g0, g1, g2⟩ := hF0
  clear x0
  go_wp2_with (go_at_call 40; (with_reducible refine (splan_f (HV.out _ HE.out) HU.out).mono ?_); rintro e w1 ⟨rfl, hw1⟩; obtain rfl : W0 = w1 := hw1.symm)
  obtain ⟨q0, q1, q2⟩ := set3 r0 r1 r2 (.bool false) (.slice none 0 0) (.slice none 0 0)
  refine bodyPost_ret (v := .tuple #[.agg #[.bool false, .slice none 0 0, .slice none 0 0], .int .i64 1]) (by simp [results, Tryd.results17, go_sem, q0, q1, q2]) rfl ?_
  exact ⟨rfl, ext_put HE.out (Nat.le_refl _) _ _ _⟩

end Go.Proofs.YtnedgbebajhcpaaDoor
