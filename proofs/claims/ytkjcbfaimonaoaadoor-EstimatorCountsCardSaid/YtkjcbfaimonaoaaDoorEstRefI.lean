/- ref42: Index. -/
import Derived.Test.YtkjcbfaimonaoaaDoorEstRef
import Derived.Test.YtkjcbfaimonaoaaDoorRFracA
import Derived.Deep.RegionHeld3
import Derived.Deep.RegionLaw
set_option linter.unusedVariables false
set_option linter.unusedSimpArgs false
set_option maxRecDepth 100000
namespace Go.Proofs.YtkjcbfaimonaoaaDoor
open Go.RowKit Num

set_option maxHeartbeats 2000000 in
theorem rindex_no {zs : List Int} {x : Value} {w : World} (hx : IntsV w x zs) (hs : ¬ Samp zs) : Calls Tryd.prog 17 #[x] w (GivesFN w 1) := by
  go_enter Tryd.func17, Tryd.ntmps17
  go_upto_region 1 with (fail)
  have hF0 := FBox.new w (.bool false) (.slice none 0 0) (.slice none 0 0) 32
  have x0 : Ext w (w.alloc (.cells #[.bool false, .slice none 0 0, .slice none 0 0] 32)) := ext_alloc (Below.refl _ _) _
  have hX := hx.below x0
  generalize w.alloc (.cells #[.bool false, .slice none 0 0, .slice none 0 0] 32) = W0 at *
  obtain ⟨r0, r1, r2, g0, g1, g2⟩ := hF0
  go_wp2_with (go_at_call 40; (with_reducible refine (rvalid_f hX hs).mono ?_); rintro e w1 ⟨rfl, rfl⟩)
  obtain ⟨q0, q1, q2⟩ := set3 r0 r1 r2 (.bool false) (.slice none 0 0) (.slice none 0 0)
  refine bodyPost_ret (v := .tuple #[.agg #[.bool false, .slice none 0 0, .slice none 0 0], .int .i64 1]) (by simp [results, Tryd.results17, go_sem, q0, q1, q2]) rfl ?_
  exact ⟨rfl, ext_put x0 (Nat.le_refl _) _ _ _⟩

set_option maxHeartbeats 2000000 in
theorem rindex_ok {zs : List Int} {x : Value} {w : World} (hx : IntsV w x zs) (hs : Samp zs) : Calls Tryd.prog 17 #[x] w (GivesFE w ((zs.sum : Rat) / (((zs.length : Nat) : Int) : Rat))) := by
  have HS := Lib.hid hs
  have HB := Lib.hid (show (0 : Int) ≤ zs.sum ∧ zs.sum ≤ 64 from by
    have := sumUp_le (Nat.le_refl _) hs.2.1
    rw [sumUp_all] at this
    exact ⟨by omega, hs.2.2⟩)
  have HL := Lib.hid hs.1
  obtain ⟨A, c, rfl, hc1, hc2, _⟩ := id hx
  go_enter Tryd.func17, Tryd.ntmps17
  go_upto_region 1 with (fail)
  have hF0 := FBox.new w (.bool false) (.slice none 0 0) (.slice none 0 0) 32
  have x0 : Ext w (w.alloc (.cells #[.bool false, .slice none 0 0, .slice none 0 0] 32)) := ext_alloc (Below.refl _ _) _
  have hX := hx.below x0
  have hs0 : w.heap.size + 1 ≤ (w.alloc (.cells #[.bool false, .slice none 0 0, .slice none 0 0] 32)).heap.size := by simp
  generalize w.alloc (.cells #[.bool false, .slice none 0 0, .slice none 0 0] 32) = W0 at *
  have HF := Lib.hid (fun (w' : World) (h : Ext W0 w') => hF0.below h)
  have HX := Lib.hid hX
  obtain ⟨r0, r1, r2, g0, g1, g2⟩ := hF0
  clear hs hx hX
  go_wp2_with (first
    | (go_at_call 40; (with_reducible refine (rvalid_t HX.out HS.out).mono ?_); rintro e w1 ⟨rfl, rfl⟩)
    | (go_at_call 43; (with_reducible refine (rtotal_ok HX.out HS.out).mono ?_); rintro e w1 ⟨rfl, rfl⟩)
    | (go_at_call 42; (with_reducible refine (rfof_n (n := zs.sum) (d := (zs.length : Int)) (by have := HB.out; omega) (by have := HL.out; omega)).mono ?_); rintro e s3 ⟨b3, A3, k3, c3, B3, l3, d3, rfl, h3, z3, n3, m3⟩; obtain ⟨r0, r1, r2, g0, g1, g2⟩ := HF.out _ z3))
  obtain ⟨q0, q1, q2⟩ := set3 r0 r1 r2 (.bool b3) (.slice A3 k3 c3) (.slice B3 l3 d3)
  refine bodyPost_ret (v := .tuple #[.agg #[.bool b3, .slice A3 k3 c3, .slice B3 l3 d3], .int .i64 0]) (by simp [results, Tryd.results17, go_sem, q0, q1, q2]) rfl ?_
  exact GivesFE.box (x0.trans z3) h3 (n3.mono (by omega)) (m3.mono (by omega)) (Nat.le_refl _)

end Go.Proofs.YtkjcbfaimonaoaaDoor
