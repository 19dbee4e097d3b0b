/- ref02 (first part): ref02: zero, New. Fractions: magnitude, Of, Norm, Sign, Cmp. ref02: Mul. -/
import Derived.Test.YtmfigiifflljpaaFrac
import Derived.Test.YtmfigiifflljpaaRefGcd
import Derived.Deep.RegionLaw
import Derived.Deep.RegionHeld3
set_option linter.unusedVariables false
set_option linter.unusedSimpArgs false
set_option maxRecDepth 100000
namespace Go.Proofs.Ytmfigiifflljpaa
open Go.RowKit Num


theorem rof_e {z : Int} {m : Nat} {w : World} (he : z = (m : Int)) (hm : m < 18446744073709551616) : Calls Try.prog 82 #[.int .u64 z] w (GivesN w m) := by
  subst he; exact rof_n hm
theorem r2of_e {z : Int} {m : Nat} {w : World} (he : z = (m : Int)) (h1 : m < 9223372036854775808) :
    Calls Try.prog 77 #[.int .i64 z] w (GivesN w m) := by
  subst he
  go_enter Try.func77, Try.ntmps77
  go_wp2_with fail
  refine (rof_n (n := m) (by omega)).mono ?_
  rintro e w1 ⟨A1, k1, c1, rfl, h1, x1, n1⟩
  obtain ⟨z1, zf1⟩ := box_new x1
  have hE := ext_new x1
  simp at n1
  go_wp2
  refine bodyPost_ret (v := .agg #[.slice A1 k1 c1]) (by simp [results, Try.results77, go_sem, World.cell?_setCell_same _ _ _ z1]) rfl ?_
  obtain ⟨r1, r2, r3⟩ := res_box (u := .slice A1 k1 c1) hE h1 n1
  exact ⟨_, _, _, rfl, r1, r2, r3⟩

theorem rzero_t {x : Value} {w : World} (hx : NatV w x 0) : Calls Try.prog 58 #[.agg #[x]] w (fun e w' => e = .returned (.bool true) ∧ Ext w w') := by
  have hX := hx.alloc (.cells #[x] 32)
  have H := Lib.hid (rcmp_n hX (NatV.nil_ _))
  go_enter Try.func58, Try.ntmps58
  go_wp2_with (go_at_call 61; (with_reducible refine H.out.mono ?_); rintro e w1 ⟨rfl, x1⟩)
  go_ret
  exact ⟨rfl, ext_new x1⟩
theorem rzero_f {x : Value} {n : Nat} {w : World} (hx : NatV w x n) (hn : n ≠ 0) : Calls Try.prog 58 #[.agg #[x]] w (fun e w' => e = .returned (.bool false) ∧ Ext w w') := by
  have hX := hx.alloc (.cells #[x] 32)
  have hc : cmpN n 0 = 1 := by unfold cmpN; rw [if_neg (by omega), if_pos (by omega)]
  have h := rcmp_n hX (NatV.nil_ _)
  rw [hc] at h
  have H := Lib.hid h
  clear h hc
  go_enter Try.func58, Try.ntmps58
  go_wp2_with (go_at_call 61; (with_reducible refine H.out.mono ?_); rintro e w1 ⟨rfl, x1⟩)
  go_ret
  exact ⟨rfl, ext_new x1⟩

set_option maxHeartbeats 2000000 in
theorem rnew_z {b : Bool} {x y : Value} {n d : Nat} {w : World} (hx : NatV w x n) (hy : NatV w y d) (hz : n = 0 ∨ d = 0) :
    Calls Try.prog 56 #[.bool b, .agg #[x], .agg #[y]] w (GivesF w 0) := by
  have hz' : n = 0 ∨ (n ≠ 0 ∧ d = 0) := by omega
  clear hz
  rcases hz' with hz | ⟨hz1, hz⟩
  all_goals
    subst hz
    go_enter Try.func56, Try.ntmps56
    go_upto_region 1 with (fail)
    have hB0 : Boxes w (((w.alloc (.cells #[x] 32)).alloc (.cells #[y] 32)).alloc (.cells #[.bool false, .slice none 0 0, .slice none 0 0] 34)) [[x], [y], [.bool false, .slice none 0 0, .slice none 0 0]] := (((Boxes.nil_ w).alloc rfl [x] 32).alloc (by simp) [y] 32).alloc (by simp) [.bool false, .slice none 0 0, .slice none 0 0] 34
    have hF0 : FBox (((w.alloc (.cells #[x] 32)).alloc (.cells #[y] 32)).alloc (.cells #[.bool false, .slice none 0 0, .slice none 0 0] 34)) (w.heap.size + 1 + 1) (.bool false) (.slice none 0 0) (.slice none 0 0) := by
      have := FBox.new ((w.alloc (.cells #[x] 32)).alloc (.cells #[y] 32)) (.bool false) (.slice none 0 0) (.slice none 0 0) 34
      simpa using this
    generalize ((w.alloc (.cells #[x] 32)).alloc (.cells #[y] 32)).alloc (.cells #[.bool false, .slice none 0 0, .slice none 0 0] 34) = W0 at *
    have HS := Lib.hid (fun (w' : World) (h : Ext W0 w') => ((hB0.below h).cell 1 _ 0 _ rfl rfl : w'.cell? ⟨w.heap.size + 1, 0, none⟩ = some y ∧ w'.frozen? ⟨w.heap.size + 1, 0, none⟩ = false))
    have HF := Lib.hid (fun (w' : World) (h : Ext W0 w') => hF0.below h)
    have HE := Lib.hid hB0.ext
    have HX := Lib.hid (hx.below hB0.ext)
    have HY := Lib.hid (hy.below hB0.ext)
    have hs0 : w.heap.size + 3 ≤ W0.heap.size := hB0.size
    obtain ⟨cx0, _⟩ : W0.cell? ⟨w.heap.size, 0, none⟩ = some x ∧ W0.frozen? ⟨w.heap.size, 0, none⟩ = false := hB0.cell 0 _ 0 _ rfl rfl
    clear hB0 hx hy hF0
    have f0 : Ext W0 W0 := Below.refl _ _
    go_wp2_with (first
      | (go_at_call 58; (with_reducible refine (rzero_t (NatV.below HX.out (by first | ((repeat first | assumption | exact Below.refl _ _ | refine ext_alloc ?_ _ | refine ext_drew ?_ | refine ext_set ?_ (by first | omega | (simp; done) | (simp; omega)) _); done) | fail))).mono ?_); rintro e s1 ⟨rfl, z1⟩; have f1 : Ext W0 s1 := Ext.trans (by first | ((repeat first | assumption | exact Below.refl _ _ | refine ext_alloc ?_ _ | refine ext_drew ?_ | refine ext_set ?_ (by first | omega | (simp; done) | (simp; omega)) _); done) | fail) z1; obtain ⟨cy1, _⟩ := HS.out _ f1)
      | (go_at_call 58; (with_reducible refine (rzero_f (NatV.below HX.out (by first | ((repeat first | assumption | exact Below.refl _ _ | refine ext_alloc ?_ _ | refine ext_drew ?_ | refine ext_set ?_ (by first | omega | (simp; done) | (simp; omega)) _); done) | fail)) hz1).mono ?_); rintro e s1 ⟨rfl, z1⟩; have f1 : Ext W0 s1 := Ext.trans (by first | ((repeat first | assumption | exact Below.refl _ _ | refine ext_alloc ?_ _ | refine ext_drew ?_ | refine ext_set ?_ (by first | omega | (simp; done) | (simp; omega)) _); done) | fail) z1; obtain ⟨cy1, _⟩ := HS.out _ f1)
      | (go_at_call 58; (with_reducible refine (rzero_t (NatV.below HY.out (by first | ((repeat first | assumption | exact Below.refl _ _ | refine ext_alloc ?_ _ | refine ext_drew ?_ | refine ext_set ?_ (by first | omega | (simp; done) | (simp; omega)) _); done) | fail))).mono ?_); rintro e s2 ⟨rfl, z2⟩; have f2 : Ext W0 s2 := Ext.trans (by first | ((repeat first | assumption | exact Below.refl _ _ | refine ext_alloc ?_ _ | refine ext_drew ?_ | refine ext_set ?_ (by first | omega | (simp; done) | (simp; omega)) _); done) | fail) z2)
      | (go_at_call 77; (with_reducible refine (r2of_e (m := 1) (by omega) (by omega)).mono ?_); rintro e s3 ⟨A3, k3, c3, rfl, h3, z3, n3⟩; have f3 : Ext W0 s3 := Ext.trans (by first | ((repeat first | assumption | exact Below.refl _ _ | refine ext_alloc ?_ _ | refine ext_drew ?_ | refine ext_set ?_ (by first | omega | (simp; done) | (simp; omega)) _); done) | fail) z3; obtain ⟨r0, r1, r2, g0, g1, g2⟩ := HF.out _ f3))
    obtain ⟨q0, q1, q2⟩ := set3 r0 r1 r2 (.bool false) (.slice none 0 0) (.slice A3 k3 c3)
    refine bodyPost_ret (v := .agg #[.bool false, .slice none 0 0, .slice A3 k3 c3]) (by simp [results, Try.results56, go_sem, q0, q1, q2]) rfl ?_
    exact GivesF.box (B := w.heap.size + 1 + 1) (HE.out.trans f3) (FracV.zero h3) (New.nil_ _) (n3.mono (by have := z3.size; first | (have := f2.size; omega) | (have := f1.size; omega))) (by omega)

set_option maxHeartbeats 4000000 in
theorem rnew_p {b : Bool} {x y : Value} {n d : Nat} {w : World} (hx : NatV w x n) (hy : NatV w y d) (hn : n ≠ 0) (hd : d ≠ 0) (hln : (limbsOf n).length ≤ 549755813887) (hld : (limbsOf d).length ≤ 549755813887) :
    Calls Try.prog 56 #[.bool b, .agg #[x], .agg #[y]] w (GivesF w (frac b n d)) := by
  have HG := Lib.hid (show 0 < Nat.gcd n d from Nat.gcd_pos_of_pos_left _ (Nat.pos_of_ne_zero hn))
  have HGL := Lib.hid (show (limbsOf (Nat.gcd n d)).length ≤ 549755813887 from Nat.le_trans (limbsOf_length_mono (Nat.gcd_le_left _ (Nat.pos_of_ne_zero hn))) hln)
  have HLN := Lib.hid hln
  have HLD := Lib.hid hld
  have HQ := Lib.hid (show b = decide (frac b n d < 0) ∧ (frac b n d).num.natAbs = n / Nat.gcd n d ∧ (frac b n d).den = d / Nat.gcd n d from ⟨(frac_neg_iff hn hd).symm, frac_num hd, frac_den hd⟩)
  clear hln hld
  go_enter Try.func56, Try.ntmps56
  go_upto_region 1 with (fail)
  have hB0 : Boxes w (((w.alloc (.cells #[x] 32)).alloc (.cells #[y] 32)).alloc (.cells #[.bool false, .slice none 0 0, .slice none 0 0] 34)) [[x], [y], [.bool false, .slice none 0 0, .slice none 0 0]] := (((Boxes.nil_ w).alloc rfl [x] 32).alloc (by simp) [y] 32).alloc (by simp) [.bool false, .slice none 0 0, .slice none 0 0] 34
  have hF0 : FBox (((w.alloc (.cells #[x] 32)).alloc (.cells #[y] 32)).alloc (.cells #[.bool false, .slice none 0 0, .slice none 0 0] 34)) (w.heap.size + 1 + 1) (.bool false) (.slice none 0 0) (.slice none 0 0) := by
    have := FBox.new ((w.alloc (.cells #[x] 32)).alloc (.cells #[y] 32)) (.bool false) (.slice none 0 0) (.slice none 0 0) 34
    simpa using this
  generalize ((w.alloc (.cells #[x] 32)).alloc (.cells #[y] 32)).alloc (.cells #[.bool false, .slice none 0 0, .slice none 0 0] 34) = W0 at *
  have HS := Lib.hid (fun (w' : World) (h : Ext W0 w') => ((hB0.below h).cell 1 _ 0 _ rfl rfl : w'.cell? ⟨w.heap.size + 1, 0, none⟩ = some y ∧ w'.frozen? ⟨w.heap.size + 1, 0, none⟩ = false))
  have HF := Lib.hid (fun (w' : World) (h : Ext W0 w') => hF0.below h)
  have HE := Lib.hid hB0.ext
  have HX := Lib.hid (hx.below hB0.ext)
  have HY := Lib.hid (hy.below hB0.ext)
  have hs0 : w.heap.size + 3 ≤ W0.heap.size := hB0.size
  obtain ⟨cx0, _⟩ : W0.cell? ⟨w.heap.size, 0, none⟩ = some x ∧ W0.frozen? ⟨w.heap.size, 0, none⟩ = false := hB0.cell 0 _ 0 _ rfl rfl
  have HCX := Lib.hid (fun (w' : World) (h : Ext W0 w') => (show w'.cell? ⟨w.heap.size, 0, none⟩ = some x from ((hB0.below h).cell 0 _ 0 _ rfl rfl).1))
  clear hB0 hx hy hF0
  have f0 : Ext W0 W0 := Below.refl _ _
  go_wp2_with (first
    | (go_at_call 58; (with_reducible refine (rzero_f (NatV.below HX.out (by first | ((repeat first | assumption | exact Below.refl _ _ | refine ext_alloc ?_ _ | refine ext_drew ?_ | refine ext_set ?_ (by first | omega | (simp; done) | (simp; omega)) _); done) | fail)) hn).mono ?_); rintro e s1 ⟨rfl, z1⟩; have f1 : Ext W0 s1 := Ext.trans (by first | ((repeat first | assumption | exact Below.refl _ _ | refine ext_alloc ?_ _ | refine ext_drew ?_ | refine ext_set ?_ (by first | omega | (simp; done) | (simp; omega)) _); done) | fail) z1; obtain ⟨cy1, _⟩ := HS.out _ f1)
    | (go_at_call 58; (with_reducible refine (rzero_f (NatV.below HY.out (by first | ((repeat first | assumption | exact Below.refl _ _ | refine ext_alloc ?_ _ | refine ext_drew ?_ | refine ext_set ?_ (by first | omega | (simp; done) | (simp; omega)) _); done) | fail)) hd).mono ?_); rintro e s2 ⟨rfl, z2⟩; have f2 : Ext W0 s2 := Ext.trans (by first | ((repeat first | assumption | exact Below.refl _ _ | refine ext_alloc ?_ _ | refine ext_drew ?_ | refine ext_set ?_ (by first | omega | (simp; done) | (simp; omega)) _); done) | fail) z2; obtain ⟨cy2, _⟩ := HS.out _ f2; have cx2 := HCX.out _ f2))
  refine (rgcd_n (NatV.below HX.out (by first | ((repeat first | assumption | exact Below.refl _ _ | refine ext_alloc ?_ _ | refine ext_drew ?_ | refine ext_set ?_ (by first | omega | (simp; done) | (simp; omega)) _); done) | fail)) (NatV.below HY.out (by first | ((repeat first | assumption | exact Below.refl _ _ | refine ext_alloc ?_ _ | refine ext_drew ?_ | refine ext_set ?_ (by first | omega | (simp; done) | (simp; omega)) _); done) | fail)) (by have := HLN.out; omega) (by have := HLD.out; omega)).mono ?_
  rintro e s3 ⟨A3, k3, c3, rfl, h3, z3, _⟩
  have y3 := ext_alloc z3 (.cells #[.slice A3 k3 c3] 32)
  have p3 := CanV.alloc h3 (.cells #[.slice A3 k3 c3] 32)
  have b3 : (s3.alloc (.cells #[.slice A3 k3 c3] 32)).cell? ⟨s3.heap.size, 0, none⟩ = some (.slice A3 k3 c3) := by simp [go_sem]
  have f3 := f2.trans y3
  obtain ⟨cy3, _⟩ := HS.out _ f3
  have cx3 := HCX.out _ f3
  clear h3 z3 y3 cx2 cy2 cx0 z1 z2 f1 f2
  go_wp2_with fail
  generalize s3.alloc (.cells #[.slice A3 k3 c3] 32) = W3 at *
  have HP3 := Lib.hid (fun (w' : World) (h : Ext W3 w') => CanV.nat (CanV.below p3 h) (Nat.le_trans HGL.out (by decide)))
  clear p3
  refine (rdivmod_pos (NatV.below HX.out f3) (HP3.out _ (Below.refl _ _)) HG.out (by have := HLN.out; omega) (by have := HGL.out; omega)).mono ?_
  rintro e s4 ⟨A4, k4, c4, A5, k5, c5, rfl, h4, h5, z4, n4, n5⟩
  have y4 := ext_alloc (ext_alloc z4 (.cells #[.slice A4 k4 c4] 32)) (.cells #[.slice A5 k5 c5] 32)
  have p4 := CanV.alloc (CanV.alloc h4 (.cells #[.slice A4 k4 c4] 32)) (.cells #[.slice A5 k5 c5] 32)
  have b4 : ((s4.alloc (.cells #[.slice A4 k4 c4] 32)).alloc (.cells #[.slice A5 k5 c5] 32)).cell? ⟨s4.heap.size, 0, none⟩ = some (.slice A4 k4 c4) := by simp [go_sem, World.cell?_alloc_old]
  have b3 := (y4.cell (p := ⟨s3.heap.size, 0, none⟩) (World.block_lt_of_cell? _ _ b3)).trans b3
  have f4 := f3.trans y4
  obtain ⟨cy4, _⟩ := HS.out _ f4
  have HP4 := Lib.hid (HP3.out _ y4)
  have hs4 := y4.size
  have n4' := n4.mono f3.size
  clear h4 h5 z4 cx3 cy3 y4 n4 n5 HP3
  go_wp2_with fail
  generalize (s4.alloc (.cells #[.slice A4 k4 c4] 32)).alloc (.cells #[.slice A5 k5 c5] 32) = W4 at *
  refine (rdivmod_pos (NatV.below HY.out f4) HP4.out HG.out (by have := HLD.out; omega) (by have := HGL.out; omega)).mono ?_
  rintro e s6 ⟨A6, k6, c6, A7, k7, c7, rfl, h6, h7, z6, n6, n7⟩
  have y6 := ext_alloc (ext_alloc z6 (.cells #[.slice A6 k6 c6] 32)) (.cells #[.slice A7 k7 c7] 32)
  have p6 := CanV.alloc (CanV.alloc h6 (.cells #[.slice A6 k6 c6] 32)) (.cells #[.slice A7 k7 c7] 32)
  have b6 : ((s6.alloc (.cells #[.slice A6 k6 c6] 32)).alloc (.cells #[.slice A7 k7 c7] 32)).cell? ⟨s6.heap.size, 0, none⟩ = some (.slice A6 k6 c6) := by simp [go_sem, World.cell?_alloc_old]
  have b4 := (y6.cell (p := ⟨s4.heap.size, 0, none⟩) (World.block_lt_of_cell? _ _ b4)).trans b4
  have p4 := CanV.below p4 y6
  have f6 := f4.trans y6
  have n6' := n6.mono f4.size
  obtain ⟨r0, r1, r2, g0, g1, g2⟩ := HF.out _ f6
  clear h6 h7 z6 b3 cy4 y6 n6 n7
  go_upto_region 6 with (fail)
  generalize (s6.alloc (.cells #[.slice A6 k6 c6] 32)).alloc (.cells #[.slice A7 k7 c7] 32) = W6 at *
  go_wp2
  obtain ⟨q0, q1, q2⟩ := set3 r0 r1 r2 (.bool b) (.slice A4 k4 c4) (.slice A6 k6 c6)
  refine bodyPost_ret (v := .agg #[.bool b, .slice A4 k4 c4, .slice A6 k6 c6]) (by simp [results, Try.results56, go_sem, q0, q1, q2]) rfl ?_
  obtain ⟨e1, e2, e3⟩ := HQ.out
  exact GivesF.box (B := w.heap.size + 1 + 1) (HE.out.trans f6) ⟨e1, by rw [e2]; exact p4, by rw [e3]; exact p6⟩ (n4'.mono (by omega)) (n6'.mono (by omega)) (by omega)

theorem rnew_n {b : Bool} {x y : Value} {n d : Nat} {w : World} (hx : NatV w x n) (hy : NatV w y d) (hln : (limbsOf n).length ≤ 549755813887) (hld : (limbsOf d).length ≤ 549755813887) :
    Calls Try.prog 56 #[.bool b, .agg #[x], .agg #[y]] w (GivesF w (frac b n d)) := by
  by_cases h : n = 0 ∨ d = 0
  · rw [frac_zero h]; exact rnew_z hx hy h
  · exact rnew_p hx hy (fun h1 => h (.inl h1)) (fun h1 => h (.inr h1)) hln hld

end Go.Proofs.Ytmfigiifflljpaa
namespace Go.Proofs.Ytmfigiifflljpaa
open Go.RowKit Num



set_option maxHeartbeats 1000000 in
theorem rmag_n {z : Int} {w : World} (hz : -9223372036854775808 ≤ z ∧ z ≤ 9223372036854775807) : Calls Try.prog 66 #[.int .i64 z] w (GivesN w z.natAbs) := by
  by_cases hn : z < 0
  · have hw1 : IntKind.u64.wrap z = z + 18446744073709551616 := by rw [IntKind.wrap_u64]; omega
    have hw2 : IntKind.u64.wrap (-(z + 18446744073709551616)) = -z := by rw [IntKind.wrap_u64]; omega
    have hw3 : IntKind.u64.wrap (-z) = -z := by rw [IntKind.wrap_u64]; omega
    go_enter Try.func66, Try.ntmps66
    go_wp2_with (go_at_call 82; (with_reducible refine (rof_e (m := z.natAbs) (by omega) (by omega)).mono ?_); rintro e w1 ⟨A1, k1, c1, rfl, h1, x1, n1⟩; obtain ⟨z1, zf1⟩ := box_new x1; have hE := ext_new x1; simp at n1)
    refine bodyPost_ret (v := .agg #[.slice A1 k1 c1]) (by simp [results, Try.results66, go_sem, World.cell?_setCell_same _ _ _ z1]) rfl ?_
    obtain ⟨r1, r2, r3⟩ := res_box (u := .slice A1 k1 c1) hE h1 n1
    exact ⟨_, _, _, rfl, r1, r2, r3⟩
  · have hw1 : IntKind.u64.wrap z = z := by rw [IntKind.wrap_u64]; omega
    go_enter Try.func66, Try.ntmps66
    go_wp2_with (go_at_call 82; (with_reducible refine (rof_e (m := z.natAbs) (by omega) (by omega)).mono ?_); rintro e w1 ⟨A1, k1, c1, rfl, h1, x1, n1⟩; obtain ⟨z1, zf1⟩ := box_new x1; have hE := ext_new x1; simp at n1)
    refine bodyPost_ret (v := .agg #[.slice A1 k1 c1]) (by simp [results, Try.results66, go_sem, World.cell?_setCell_same _ _ _ z1]) rfl ?_
    obtain ⟨r1, r2, r3⟩ := res_box (u := .slice A1 k1 c1) hE h1 n1
    exact ⟨_, _, _, rfl, r1, r2, r3⟩

set_option maxHeartbeats 2000000 in
theorem rfof_n {n d : Int} {w : World} (hn : -9223372036854775808 ≤ n ∧ n ≤ 9223372036854775807) (hd : -9223372036854775808 ≤ d ∧ d ≤ 9223372036854775807) :
    Calls Try.prog 41 #[.int .i64 n, .int .i64 d] w (GivesF w ((n : Rat) / (d : Rat))) := by
  have HL1 := Lib.hid (limbs_i64 hn)
  have HL2 := Lib.hid (limbs_i64 hd)
  have HN := Lib.hid hn
  have HD := Lib.hid hd
  rw [← frac_of]
  clear hn hd
  go_enter Try.func41, Try.ntmps41
  go_upto_region 1 with (fail)
  have hF0 := FBox.new w (.bool false) (.slice none 0 0) (.slice none 0 0) 34
  have x0 : Ext w (w.alloc (.cells #[.bool false, .slice none 0 0, .slice none 0 0] 34)) := ext_alloc (Below.refl _ _) _
  have hs0 : w.heap.size + 1 ≤ (w.alloc (.cells #[.bool false, .slice none 0 0, .slice none 0 0] 34)).heap.size := by simp
  generalize w.alloc (.cells #[.bool false, .slice none 0 0, .slice none 0 0] 34) = W0 at *
  have HF := Lib.hid (fun (w' : World) (h : Ext W0 w') => hF0.below h)
  have HE := Lib.hid x0
  clear hF0 x0
  have f0 : Ext W0 W0 := Below.refl _ _
  go_wp2_with (first
    | (go_at_call 66; (with_reducible refine (rmag_n HN.out).mono ?_); rintro e s1 ⟨A1, k1, c1, rfl, h1, z1, _⟩; have f1 : Ext W0 s1 := Ext.trans (by first | ((repeat first | assumption | exact Below.refl _ _ | refine ext_alloc ?_ _ | refine ext_drew ?_ | refine ext_set ?_ (by first | omega | (simp; done) | (simp; omega)) _); done) | fail) z1; have HP1 := Lib.hid (fun (w' : World) (h : Ext s1 w') => CanV.nat (CanV.below h1 h) (by have := HL1.out; unfold Fit; omega)))
    | (go_at_call 66; (with_reducible refine (rmag_n HD.out).mono ?_); rintro e s2 ⟨A2, k2, c2, rfl, h2, z2, _⟩; have f2 : Ext W0 s2 := Ext.trans (by first | ((repeat first | assumption | exact Below.refl _ _ | refine ext_alloc ?_ _ | refine ext_drew ?_ | refine ext_set ?_ (by first | omega | (simp; done) | (simp; omega)) _); done) | fail) z2)
    | (go_at_call 56; (with_reducible refine (rnew_n (HP1.out _ z2) (CanV.nat h2 (by have := HL2.out; unfold Fit; omega)) (by have := HL1.out; omega) (by have := HL2.out; omega)).mono ?_); rintro e s3 ⟨b3, A3, k3, c3, B3, l3, d3, rfl, h3, z3, n3, m3⟩; have f3 : Ext W0 s3 := Ext.trans (by first | ((repeat first | assumption | exact Below.refl _ _ | refine ext_alloc ?_ _ | refine ext_drew ?_ | refine ext_set ?_ (by first | omega | (simp; done) | (simp; omega)) _); done) | fail) z3; obtain ⟨r0, r1, r2, g0, g1, g2⟩ := HF.out _ f3))
  obtain ⟨q0, q1, q2⟩ := set3 r0 r1 r2 (.bool b3) (.slice A3 k3 c3) (.slice B3 l3 d3)
  refine bodyPost_ret (v := .agg #[.bool b3, .slice A3 k3 c3, .slice B3 l3 d3]) (by simp [results, Try.results41, go_sem, q0, q1, q2]) rfl ?_
  exact GivesF.box (B := w.heap.size) (HE.out.trans f3) h3 (n3.mono (by have := f2.size; omega)) (m3.mono (by have := f2.size; omega)) (by omega)

end Go.Proofs.Ytmfigiifflljpaa
