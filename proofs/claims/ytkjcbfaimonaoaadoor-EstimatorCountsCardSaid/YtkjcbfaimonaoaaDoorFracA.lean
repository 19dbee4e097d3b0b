/- Fractions: magnitude, Of, Norm, Sign, Cmp. -/
import Derived.Test.YtkjcbfaimonaoaaDoorFrac
import Derived.Deep.RegionLaw
set_option linter.unusedVariables false
set_option linter.unusedSimpArgs false
set_option maxRecDepth 100000
namespace Go.Proofs.YtkjcbfaimonaoaaDoor
open Go.RowKit Num


theorem frac_of (n d : Int) : frac (decide (n < 0) != decide (d < 0)) n.natAbs d.natAbs = (n : Rat) / (d : Rat) := by
  have key : ∀ z : Int, (z : Rat) = if z < 0 then -((z.natAbs : Nat) : Rat) else ((z.natAbs : Nat) : Rat) := by
    intro z
    rw [← Rat.intCast_natCast]
    split
    · rw [← Rat.intCast_neg]; congr 1; omega
    · congr 1; omega
  rw [key n, key d, frac_eq]
  by_cases h1 : n < 0 <;> by_cases h2 : d < 0 <;> simp [h1, h2, sgn, Rat.div_def, Rat.intCast_neg, Rat.intCast_natCast] <;> grind
theorem limbs_i64 {z : Int} (h : -9223372036854775808 ≤ z ∧ z ≤ 9223372036854775807) : (limbsOf z.natAbs).length ≤ 3 :=
  limbsOf_length_le (Nat.lt_of_le_of_lt (show z.natAbs ≤ 9223372036854775808 from by omega) (by decide))

set_option maxHeartbeats 1000000 in
theorem mag_n {z : Int} {w : World} (hz : -9223372036854775808 ≤ z ∧ z ≤ 9223372036854775807) : Calls Tryd.prog 50 #[.int .i64 z] w (GivesN w z.natAbs) := by
  by_cases hn : z < 0
  · have hw1 : IntKind.u64.wrap z = z + 18446744073709551616 := by rw [IntKind.wrap_u64]; omega
    have hw2 : IntKind.u64.wrap (-(z + 18446744073709551616)) = -z := by rw [IntKind.wrap_u64]; omega
    have hw3 : IntKind.u64.wrap (-z) = -z := by rw [IntKind.wrap_u64]; omega
    go_enter Tryd.func50, Tryd.ntmps50
    go_wp2_with (go_at_call 71; (with_reducible refine (nof_e (m := z.natAbs) (by omega) (by omega)).mono ?_); rintro e w1 ⟨A1, k1, c1, rfl, h1, x1, n1⟩; obtain ⟨z1, zf1⟩ := box_new x1; have hE := ext_new x1; simp at n1)
    refine bodyPost_ret (v := .agg #[.slice A1 k1 c1]) (by simp [results, Tryd.results50, go_sem, World.cell?_setCell_same _ _ _ z1]) rfl ?_
    obtain ⟨r1, r2, r3⟩ := res_box (u := .slice A1 k1 c1) hE h1 n1
    exact ⟨_, _, _, rfl, r1, r2, r3⟩
  · have hw1 : IntKind.u64.wrap z = z := by rw [IntKind.wrap_u64]; omega
    go_enter Tryd.func50, Tryd.ntmps50
    go_wp2_with (go_at_call 71; (with_reducible refine (nof_e (m := z.natAbs) (by omega) (by omega)).mono ?_); rintro e w1 ⟨A1, k1, c1, rfl, h1, x1, n1⟩; obtain ⟨z1, zf1⟩ := box_new x1; have hE := ext_new x1; simp at n1)
    refine bodyPost_ret (v := .agg #[.slice A1 k1 c1]) (by simp [results, Tryd.results50, go_sem, World.cell?_setCell_same _ _ _ z1]) rfl ?_
    obtain ⟨r1, r2, r3⟩ := res_box (u := .slice A1 k1 c1) hE h1 n1
    exact ⟨_, _, _, rfl, r1, r2, r3⟩

set_option maxHeartbeats 2000000 in
theorem fof_n {n d : Int} {w : World} (hn : -9223372036854775808 ≤ n ∧ n ≤ 9223372036854775807) (hd : -9223372036854775808 ≤ d ∧ d ≤ 9223372036854775807) :
    Calls Tryd.prog 26 #[.int .i64 n, .int .i64 d] w (GivesF w ((n : Rat) / (d : Rat))) := by
  have HL1 := Lib.hid (limbs_i64 hn)
  have HL2 := Lib.hid (limbs_i64 hd)
  have HN := Lib.hid hn
  have HD := Lib.hid hd
  rw [← frac_of]
  clear hn hd
  go_enter Tryd.func26, Tryd.ntmps26
  go_upto_region 1 with (fail)
  have hF0 := FBox.new w (.bool false) (.slice none 0 0) (.slice none 0 0) 32
  have x0 : Ext w (w.alloc (.cells #[.bool false, .slice none 0 0, .slice none 0 0] 32)) := ext_alloc (Below.refl _ _) _
  have hs0 : w.heap.size + 1 ≤ (w.alloc (.cells #[.bool false, .slice none 0 0, .slice none 0 0] 32)).heap.size := by simp
  generalize w.alloc (.cells #[.bool false, .slice none 0 0, .slice none 0 0] 32) = W0 at *
  have HF := Lib.hid (fun (w' : World) (h : Ext W0 w') => hF0.below h)
  have HE := Lib.hid x0
  clear hF0 x0
  have f0 : Ext W0 W0 := Below.refl _ _
  go_wp2_with (first
    | (go_at_call 50; (with_reducible refine (mag_n HN.out).mono ?_); rintro e s1 ⟨A1, k1, c1, rfl, h1, z1, _⟩; have f1 : Ext W0 s1 := Ext.trans (by repeat first | assumption | exact Below.refl _ _ | refine ext_alloc ?_ _ | refine ext_drew ?_ | refine ext_set ?_ (by first | omega | (simp; done) | (simp; omega)) _) z1; have HP1 := Lib.hid (fun (w' : World) (h : Ext s1 w') => CanV.nat (CanV.below h1 h) (by have := HL1.out; unfold Fit; omega)))
    | (go_at_call 50; (with_reducible refine (mag_n HD.out).mono ?_); rintro e s2 ⟨A2, k2, c2, rfl, h2, z2, _⟩; have f2 : Ext W0 s2 := Ext.trans (by repeat first | assumption | exact Below.refl _ _ | refine ext_alloc ?_ _ | refine ext_drew ?_ | refine ext_set ?_ (by first | omega | (simp; done) | (simp; omega)) _) z2)
    | (go_at_call 49; (with_reducible refine (made_n (HP1.out _ z2) (CanV.nat h2 (by have := HL2.out; unfold Fit; omega)) (by have := HL1.out; omega) (by have := HL2.out; omega)).mono ?_); rintro e s3 ⟨b3, A3, k3, c3, B3, l3, d3, rfl, h3, z3, n3, m3⟩; have f3 : Ext W0 s3 := Ext.trans (by repeat first | assumption | exact Below.refl _ _ | refine ext_alloc ?_ _ | refine ext_drew ?_ | refine ext_set ?_ (by first | omega | (simp; done) | (simp; omega)) _) z3; obtain ⟨r0, r1, r2, g0, g1, g2⟩ := HF.out _ f3))
  obtain ⟨q0, q1, q2⟩ := set3 r0 r1 r2 (.bool b3) (.slice A3 k3 c3) (.slice B3 l3 d3)
  refine bodyPost_ret (v := .agg #[.bool b3, .slice A3 k3 c3, .slice B3 l3 d3]) (by simp [results, Tryd.results26, go_sem, q0, q1, q2]) rfl ?_
  exact GivesF.box (B := w.heap.size) (HE.out.trans f3) h3 (n3.mono (by have := f2.size; omega)) (m3.mono (by have := f2.size; omega)) (by omega)
set_option maxHeartbeats 2000000 in
theorem norm_f {b : Bool} {s t : Value} {q : Rat} {L : Nat} {w : World} (hx : AnyF w b s t q L) (hL : L ≤ 549755813887) :
    Calls Tryd.prog 59 #[.agg #[.bool b, s, t]] w (GivesF w q) := by
  obtain ⟨n, d, hn, hd, rfl, ln, ld⟩ := hx
  have HL1 := Lib.hid ln
  have HL2 := Lib.hid ld
  clear ln ld
  go_enter Tryd.func59, Tryd.ntmps59
  go_upto_region 1 with (fail)
  have hX0 := FBox.new w (.bool b) s t 32
  have hF0 := FBox.new (w.alloc (.cells #[.bool b, s, t] 32)) (.bool false) (.slice none 0 0) (.slice none 0 0) 32
  have hX1 := hX0.below (ext_alloc (Below.refl _ _) (.cells #[.bool false, .slice none 0 0, .slice none 0 0] 32))
  have x0 : Ext w ((w.alloc (.cells #[.bool b, s, t] 32)).alloc (.cells #[.bool false, .slice none 0 0, .slice none 0 0] 32)) := ext_alloc (ext_alloc (Below.refl _ _) _) _
  have hs0 : w.heap.size + 1 + 1 ≤ ((w.alloc (.cells #[.bool b, s, t] 32)).alloc (.cells #[.bool false, .slice none 0 0, .slice none 0 0] 32)).heap.size := by simp
  rw [show (w.alloc (.cells #[.bool b, s, t] 32)).heap.size = w.heap.size + 1 from by simp] at hF0
  clear hX0
  generalize (w.alloc (.cells #[.bool b, s, t] 32)).alloc (.cells #[.bool false, .slice none 0 0, .slice none 0 0] 32) = W0 at *
  have HF := Lib.hid (fun (w' : World) (h : Ext W0 w') => hF0.below h)
  have HE := Lib.hid x0
  obtain ⟨cx0, cx1, cx2, _, _, _⟩ := hX1
  have f0 : Ext W0 W0 := Below.refl _ _
  clear hF0
  have HN := Lib.hid (hn.below x0)
  have HD := Lib.hid (hd.below x0)
  clear x0 hn hd
  go_wp2_with (go_at_call 49; (with_reducible refine (made_n HN.out HD.out (by have := HL1.out; omega) (by have := HL2.out; omega)).mono ?_); rintro e s3 ⟨b3, A3, k3, c3, B3, l3, d3, rfl, h3, z3, n3, m3⟩; have f3 : Ext W0 s3 := Ext.trans (by repeat first | assumption | exact Below.refl _ _ | refine ext_alloc ?_ _ | refine ext_drew ?_ | refine ext_set ?_ (by first | omega | (simp; done) | (simp; omega)) _) z3; obtain ⟨r0, r1, r2, g0, g1, g2⟩ := HF.out _ f3)
  obtain ⟨q0, q1, q2⟩ := set3 r0 r1 r2 (.bool b3) (.slice A3 k3 c3) (.slice B3 l3 d3)
  refine bodyPost_ret (v := .agg #[.bool b3, .slice A3 k3 c3, .slice B3 l3 d3]) (by simp [results, Tryd.results59, go_sem, q0, q1, q2]) rfl ?_
  exact GivesF.box (B := w.heap.size + 1) (HE.out.trans f3) h3 (n3.mono (by have := f0.size; omega)) (m3.mono (by have := f0.size; omega)) (by omega)

end Go.Proofs.YtkjcbfaimonaoaaDoor
