/- occupancy: Singles. -/
import Derived.Test.YtglphodaoafdmaaGreatDoorOcB
set_option linter.unusedVariables false
set_option linter.unusedSimpArgs false
set_option maxRecDepth 100000
namespace Go.Proofs.YtglphodaoafdmaaGreatDoor
open Go.RowKit Num

/-- The mean number of dies that are seen once, as the program reckons it. -/
def singlesQ (n D : Nat) : Rat := ((n : Int) : Rat) / ((1 : Int) : Rat) * powQ (one1 - ((1 : Int) : Rat) / ((D : Int) : Rat)) (n - 1)

set_option maxHeartbeats 4000000 in
theorem osingles_ok {n D : Nat} {w : World} (hn1 : 1 ≤ n) (hn : n ≤ 30) (hD1 : 1 ≤ D) (hD : D ≤ 60) (ht : Tab10 w) :
    Calls Tryz.prog 7 #[.int .i64 n, .int .i64 D] w (GivesFE w (singlesQ n D)) := by
  have HS := Lib.hid (less_small hD1 hD)
  have HD1 := Lib.hid (show FB (((1 : Int) : Rat) / ((D : Int) : Rat)) 3 from fb_i64 (by omega) (by omega))
  have HDD := Lib.hid (show FB (((n : Int) : Rat) / ((1 : Int) : Rat)) 3 from fb_i64 (by omega) (by omega))
  have HP := Lib.hid (powQ_fb (n := n - 1) HS.out.1 HS.out.2 (by omega))
  have HT := Lib.hid (fun (w' : World) (h : Ext w w') => ht.ext h)
  have hw1 : IntKind.i64.wrap ((n : Int) - 1) = ((n - 1 : Nat) : Int) := by rw [wrap_in (by omega)]; omega
  clear ht
  unfold singlesQ
  go_enter Tryz.func7, Tryz.ntmps7
  go_upto_region 1 with (fail)
  have hF0 := FBox.new w (.bool false) (.slice none 0 0) (.slice none 0 0) 28
  have x0 : Ext w (w.alloc (.cells #[.bool false, .slice none 0 0, .slice none 0 0] 28)) := ext_alloc (Below.refl _ _) _
  have hs0 : w.heap.size + 1 ≤ (w.alloc (.cells #[.bool false, .slice none 0 0, .slice none 0 0] 28)).heap.size := by simp
  generalize w.alloc (.cells #[.bool false, .slice none 0 0, .slice none 0 0] 28) = W0 at *
  have HF := Lib.hid (fun (w' : World) (h : Ext W0 w') => hF0.below h)
  have HE := Lib.hid x0
  have f0 : Ext W0 W0 := Below.refl _ _
  obtain ⟨r0, r1, r2, g0, g1, g2⟩ := hF0
  clear x0
  go_wp2_with (first
    | (go_at_call 14; (with_reducible refine (ocheck_ok (n := (n : Int)) (D := (D : Int)) (by omega) (by omega)).mono ?_); rintro e w1 ⟨rfl, rfl⟩)
    | (go_at_call 16; (with_reducible refine (fof_n (n := (n : Int)) (d := 1) (by omega) (by omega)).mono ?_); rintro _ s1 ⟨b1, A1, k1, c1, B1, l1, d1, rfl, h1, z1, _⟩; have HH1 := Lib.hid (fun (w' : World) (h : Ext s1 w') => FracV.any (h1.below h) HDD.out (by omega)))
    | (go_at_call 16; (with_reducible refine (fof_n (n := 1) (d := (D : Int)) (by omega) (by omega)).mono ?_); rintro _ s2 ⟨b2, A2, k2, c2, B2, l2, d2, rfl, h2, z2, _⟩)
    | (go_at_call 17; (with_reducible refine (omissed (n := n - 1) (FracV.any h2 HD1.out (by omega)) HD1.out HS.out.1 HS.out.2 (by omega) (HT.out _ (HE.out.trans (z1.trans z2)))).mono ?_); rintro _ s3 ⟨b3, A3, k3, c3, B3, l3, d3, rfl, h3, z3, _⟩)
    | (go_at_call 18; (with_reducible refine (mul_f (HH1.out _ (z2.trans z3)) (FracV.any h3 HP.out (by omega)) (by omega)).mono ?_); rintro _ s9 ⟨b9, A9, k9, c9, B9, l9, d9, rfl, h9, z9, n9, m9⟩; have f9 := z1.trans (z2.trans (z3.trans z9)); obtain ⟨r0, r1, r2, g0, g1, g2⟩ := HF.out _ f9))
  obtain ⟨q0, q1, q2⟩ := set3 r0 r1 r2 (.bool b9) (.slice A9 k9 c9) (.slice B9 l9 d9)
  refine bodyPost_ret (v := .tuple #[.agg #[.bool b9, .slice A9 k9 c9, .slice B9 l9 d9], .int .i64 0]) (by simp [results, Tryz.results7, go_sem, q0, q1, q2]) rfl ?_
  exact GivesFE.box (HE.out.trans f9) h9 (n9.mono (by have := z1.size; have := z2.size; have := z3.size; omega)) (m9.mono (by have := z1.size; have := z2.size; have := z3.size; omega)) (Nat.le_refl _)

end Go.Proofs.YtglphodaoafdmaaGreatDoor
