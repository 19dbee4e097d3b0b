/- estimator.Good. estimator.Good: every die was seen once. -/
import Derived.Test.YtfnngchanhnaiaaDoorEst
set_option linter.unusedVariables false
set_option linter.unusedSimpArgs false
set_option maxRecDepth 100000
namespace Go.Proofs.YtfnngchanhnaiaaDoor
open Go.RowKit Num

set_option maxHeartbeats 4000000 in
theorem egood_ok {zs : List Int} {x : Value} {w : World} (hx : IntsV w x zs) (hs : Samp zs) (hne : zs.sum ≠ (seen zs 1 : Int)) :
    Calls Tryd.prog 11 #[x] w (GivesFE w ((((zs.length : Int) * zs.sum : Int) : Rat) / ((zs.sum - (seen zs 1 : Int) : Int) : Rat))) := by
  have HS := Lib.hid hs
  have hB9 : (0 : Int) ≤ zs.sum ∧ zs.sum ≤ 64 := by
    have := sumUp_le (Nat.le_refl _) hs.2.1
    rw [sumUp_all] at this
    exact ⟨by omega, hs.2.2⟩
  have hL9 := hs.1
  have hO9 : seen zs 1 ≤ 64 := Nat.le_trans List.count_le_length hL9.2
  have hp1 : 0 ≤ (zs.length : Int) * zs.sum := Int.mul_nonneg (by omega) (by omega)
  have hp2 : (zs.length : Int) * zs.sum ≤ 64 * 64 := Int.mul_le_mul (by omega) (by omega) (by omega) (by omega)
  have hw1 : IntKind.i64.wrap ((zs.length : Int) * zs.sum) = (zs.length : Int) * zs.sum := wrap_in (by omega)
  have hw2 : IntKind.i64.wrap (zs.sum - (seen zs 1 : Int)) = zs.sum - (seen zs 1 : Int) := wrap_in (by omega)
  have HP := Lib.hid (show -9223372036854775808 ≤ (zs.length : Int) * zs.sum ∧ (zs.length : Int) * zs.sum ≤ 9223372036854775807 from by omega)
  have HQ := Lib.hid (show -9223372036854775808 ≤ zs.sum - (seen zs 1 : Int) ∧ zs.sum - (seen zs 1 : Int) ≤ 9223372036854775807 from by omega)
  clear hp1 hp2
  go_enter Tryd.func11, Tryd.ntmps11
  go_upto_region 1 with (fail)
  have hF0 := FBox.new w (.bool false) (.slice none 0 0) (.slice none 0 0) 38
  have x0 : Ext w (w.alloc (.cells #[.bool false, .slice none 0 0, .slice none 0 0] 38)) := ext_alloc (Below.refl _ _) _
  have hX := hx.below x0
  have hs0 : w.heap.size + 1 ≤ (w.alloc (.cells #[.bool false, .slice none 0 0, .slice none 0 0] 38)).heap.size := by simp
  generalize w.alloc (.cells #[.bool false, .slice none 0 0, .slice none 0 0] 38) = W0 at *
  have HF := Lib.hid (fun (w' : World) (h : Ext W0 w') => hF0.below h)
  clear hF0 hs
  go_upto_region 2 with (go_at_call 19; (with_reducible refine (read_ok hX HS.out).mono ?_); rintro e w1 ⟨A1, c1, rfl, h1, x1, n1⟩)
  have hB0 := FBox.new w1 (.int .i64 zs.sum) (.int .i64 zs.length) (.slice A1 (mostOf zs) c1) 47
  have x2 : Ext W0 (w1.alloc (.cells #[.int .i64 zs.sum, .int .i64 zs.length, .slice A1 (mostOf zs) c1] 47)) := ext_alloc x1 _
  have hI := h1.below (ext_alloc (Below.refl _ _) (.cells #[.int .i64 zs.sum, .int .i64 zs.length, .slice A1 (mostOf zs) c1] 47))
  generalize w1.alloc (.cells #[.int .i64 zs.sum, .int .i64 zs.length, .slice A1 (mostOf zs) c1] 47) = W1 at *
  generalize w1.heap.size = B at *
  have HI := Lib.hid hI
  have HB := Lib.hid (fun (w' : World) (h : Ext W1 w') => hB0.below h)
  have HC := Lib.hid (fun (w' : World) (h : Ext W1 w') => (⟨(hB0.below h).1, (hB0.below h).2.1, (hB0.below h).2.2.1⟩ : w'.cell? ⟨B, 0, none⟩ = some (.int .i64 zs.sum) ∧ w'.cell? ⟨B, 1, none⟩ = some (.int .i64 zs.length) ∧ w'.cell? ⟨B, 2, none⟩ = some (.slice A1 (mostOf zs) c1)))
  clear h1 hX hI
  obtain ⟨b0, b1, b2, _, _, _⟩ := hB0
  have f0 : Ext W1 W1 := Below.refl _ _
  go_upto_region 4 with (fail)
  go_region_held3 (fun w' => w'.cell? ⟨B, 0, none⟩ = some (.int .i64 zs.sum) ∧ w'.cell? ⟨B, 1, none⟩ = some (.int .i64 zs.length) ∧ w'.cell? ⟨B, 2, none⟩ = some (.slice A1 (mostOf zs) c1)) (exact HC.out _ (by first | ((repeat first | assumption | exact Below.refl _ _ | refine ext_alloc ?_ _ | refine ext_drew ?_ | refine ext_set ?_ (by first | omega | (simp; done) | (simp; omega)) _); done) | fail))
    (first | (go_at_call 20; (with_reducible refine (one_ok (HI.out.below (by first | ((repeat first | assumption | exact Below.refl _ _ | refine ext_alloc ?_ _ | refine ext_drew ?_ | refine ext_set ?_ (by first | omega | (simp; done) | (simp; omega)) _); done) | fail)) HS.out).mono ?_); rintro _ s1 ⟨rfl, z1⟩; have f1 : Ext W1 s1 := Ext.trans (by first | ((repeat first | assumption | exact Below.refl _ _ | refine ext_alloc ?_ _ | refine ext_drew ?_ | refine ext_set ?_ (by first | omega | (simp; done) | (simp; omega)) _); done) | fail) z1))
  have hne' : (zs.sum == (seen zs 1 : Int)) = false := by simpa using hne
  obtain ⟨b0, b1, b2, _, _, _⟩ := HB.out _ f1
  have e1 : Ext s1 s1 := Below.refl _ _
  have hs1 : W1.heap.size ≤ s1.heap.size := f1.size
  have hs2 : w.heap.size + 1 ≤ s1.heap.size := by have := x2.size; omega
  obtain ⟨r0, r1, r2, g0, g1, g2⟩ := HF.out _ (x2.trans f1)
  go_upto_region 6 with (fail)
  go_region_law (first
    | (go_simp; go_at_call 20; (with_reducible refine (one_ok (HI.out.below (Ext.trans f1 (by first | ((repeat first | assumption | exact Below.refl _ _ | refine ext_alloc ?_ _ | refine ext_drew ?_ | refine ext_set ?_ (by first | omega | (simp; done) | (simp; omega)) _); done) | fail))) HS.out).mono ?_); rintro _ s2 ⟨rfl, z2⟩; have f2 : Ext s1 s2 := Ext.trans (by first | ((repeat first | assumption | exact Below.refl _ _ | refine ext_alloc ?_ _ | refine ext_drew ?_ | refine ext_set ?_ (by first | omega | (simp; done) | (simp; omega)) _); done) | fail) z2; obtain ⟨b0, b1, b2, _, _, _⟩ := HB.out _ (f1.trans f2))
    | (go_simp; go_at_call 21; (with_reducible refine (fof_n HP.out HQ.out).mono ?_); rintro _ s3 ⟨b3, A3, k3, c3, B3, l3, d3, rfl, h3, z3, n3, m3⟩; have f3 : Ext s1 s3 := Ext.trans (by first | ((repeat first | assumption | exact Below.refl _ _ | refine ext_alloc ?_ _ | refine ext_drew ?_ | refine ext_set ?_ (by first | omega | (simp; done) | (simp; omega)) _); done) | fail) z3; obtain ⟨r0, r1, r2, g0, g1, g2⟩ := HF.out _ (x2.trans (f1.trans f3)); obtain ⟨b0, b1, b2, _, _, _⟩ := HB.out _ (f1.trans f3)))
  all_goals go_wp2
  all_goals
    obtain ⟨q0, q1, q2⟩ := set3 r0 r1 r2 (.bool b3) (.slice A3 k3 c3) (.slice B3 l3 d3)
    refine bodyPost_ret (v := .tuple #[.agg #[.bool b3, .slice A3 k3 c3, .slice B3 l3 d3], .int .i64 0]) (by simp [results, Tryd.results11, go_sem, q0, q1, q2]) rfl ?_
    exact GivesFE.box (x0.trans (x2.trans (f1.trans f3))) h3 (n3.mono (by have := f2.size; omega)) (m3.mono (by have := f2.size; omega)) (Nat.le_refl _)

end Go.Proofs.YtfnngchanhnaiaaDoor
namespace Go.Proofs.YtfnngchanhnaiaaDoor
open Go.RowKit Num

set_option maxHeartbeats 4000000 in
theorem egood_z {zs : List Int} {x : Value} {w : World} (hx : IntsV w x zs) (hs : Samp zs) (hne : zs.sum = (seen zs 1 : Int)) :
    Calls Tryd.prog 11 #[x] w (GivesFN w 12) := by
  have HNE := Lib.hid hne
  clear hne
  have HS := Lib.hid hs
  have hB9 : (0 : Int) ≤ zs.sum ∧ zs.sum ≤ 64 := by
    have := sumUp_le (Nat.le_refl _) hs.2.1
    rw [sumUp_all] at this
    exact ⟨by omega, hs.2.2⟩
  have hL9 := hs.1
  have hO9 : seen zs 1 ≤ 64 := Nat.le_trans List.count_le_length hL9.2
  go_enter Tryd.func11, Tryd.ntmps11
  go_upto_region 1 with (fail)
  have hF0 := FBox.new w (.bool false) (.slice none 0 0) (.slice none 0 0) 38
  have x0 : Ext w (w.alloc (.cells #[.bool false, .slice none 0 0, .slice none 0 0] 38)) := ext_alloc (Below.refl _ _) _
  have hX := hx.below x0
  have hs0 : w.heap.size + 1 ≤ (w.alloc (.cells #[.bool false, .slice none 0 0, .slice none 0 0] 38)).heap.size := by simp
  generalize w.alloc (.cells #[.bool false, .slice none 0 0, .slice none 0 0] 38) = W0 at *
  have HF := Lib.hid (fun (w' : World) (h : Ext W0 w') => hF0.below h)
  clear hF0 hs
  go_upto_region 2 with (go_at_call 19; (with_reducible refine (read_ok hX HS.out).mono ?_); rintro e w1 ⟨A1, c1, rfl, h1, x1, n1⟩)
  have hB0 := FBox.new w1 (.int .i64 zs.sum) (.int .i64 zs.length) (.slice A1 (mostOf zs) c1) 47
  have x2 : Ext W0 (w1.alloc (.cells #[.int .i64 zs.sum, .int .i64 zs.length, .slice A1 (mostOf zs) c1] 47)) := ext_alloc x1 _
  have hI := h1.below (ext_alloc (Below.refl _ _) (.cells #[.int .i64 zs.sum, .int .i64 zs.length, .slice A1 (mostOf zs) c1] 47))
  generalize w1.alloc (.cells #[.int .i64 zs.sum, .int .i64 zs.length, .slice A1 (mostOf zs) c1] 47) = W1 at *
  generalize w1.heap.size = B at *
  have HI := Lib.hid hI
  have HB := Lib.hid (fun (w' : World) (h : Ext W1 w') => hB0.below h)
  have HC := Lib.hid (fun (w' : World) (h : Ext W1 w') => (⟨(hB0.below h).1, (hB0.below h).2.1, (hB0.below h).2.2.1⟩ : w'.cell? ⟨B, 0, none⟩ = some (.int .i64 zs.sum) ∧ w'.cell? ⟨B, 1, none⟩ = some (.int .i64 zs.length) ∧ w'.cell? ⟨B, 2, none⟩ = some (.slice A1 (mostOf zs) c1)))
  clear h1 hX hI
  obtain ⟨b0, b1, b2, _, _, _⟩ := hB0
  have f0 : Ext W1 W1 := Below.refl _ _
  go_upto_region 4 with (fail)
  go_region_held3 (fun w' => w'.cell? ⟨B, 0, none⟩ = some (.int .i64 zs.sum) ∧ w'.cell? ⟨B, 1, none⟩ = some (.int .i64 zs.length) ∧ w'.cell? ⟨B, 2, none⟩ = some (.slice A1 (mostOf zs) c1)) (exact HC.out _ (by first | ((repeat first | assumption | exact Below.refl _ _ | refine ext_alloc ?_ _ | refine ext_drew ?_ | refine ext_set ?_ (by first | omega | (simp; done) | (simp; omega)) _); done) | fail))
    (first | (go_at_call 20; (with_reducible refine (one_ok (HI.out.below (by first | ((repeat first | assumption | exact Below.refl _ _ | refine ext_alloc ?_ _ | refine ext_drew ?_ | refine ext_set ?_ (by first | omega | (simp; done) | (simp; omega)) _); done) | fail)) HS.out).mono ?_); rintro _ s1 ⟨rfl, z1⟩; have f1 : Ext W1 s1 := Ext.trans (by first | ((repeat first | assumption | exact Below.refl _ _ | refine ext_alloc ?_ _ | refine ext_drew ?_ | refine ext_set ?_ (by first | omega | (simp; done) | (simp; omega)) _); done) | fail) z1))
  have heq' : (zs.sum == (seen zs 1 : Int)) = true := by have := HNE.out; simp [this]
  obtain ⟨b0, b1, b2, _, _, _⟩ := HB.out _ f1
  obtain ⟨r0, r1, r2, g0, g1, g2⟩ := HF.out _ (x2.trans f1)
  go_wp2
  all_goals
    obtain ⟨q0, q1, q2⟩ := set3 r0 r1 r2 (.bool false) (.slice none 0 0) (.slice none 0 0)
    refine bodyPost_ret (v := .tuple #[.agg #[.bool false, .slice none 0 0, .slice none 0 0], .int .i64 12]) (by simp [results, Tryd.results11, go_sem, q0, q1, q2]) rfl ?_
    exact ⟨rfl, ext_put (x0.trans (x2.trans f1)) (Nat.le_refl _) _ _ _⟩

end Go.Proofs.YtfnngchanhnaiaaDoor
