/- estimator.Jackknife, estimator.Chao. -/
import Derived.Test.YtkjcbfaimonaoaaDoorEstS
import Derived.Test.YtkjcbfaimonaoaaDoorFracP
set_option linter.unusedVariables false
set_option linter.unusedSimpArgs false
set_option maxRecDepth 100000
namespace Go.Proofs.YtkjcbfaimonaoaaDoor
open Go.RowKit Num

set_option maxHeartbeats 4000000 in
theorem ejack_ok {zs : List Int} {x : Value} {w : World} (hx : IntsV w x zs) (hs : Samp zs) :
    Calls Tryd.prog 30 #[x] w (GivesFE w ((((zs.length : Int) * zs.sum + (seen zs 1 : Int) * (zs.sum - 1) : Int) : Rat) / (zs.sum : Rat))) := by
  have HS := Lib.hid hs
  have hB9 : (1 : Int) ≤ zs.sum ∧ zs.sum ≤ 64 := by
    have := sumUp_le (Nat.le_refl _) hs.2.1
    rw [sumUp_all] at this
    have := hs.1
    exact ⟨by omega, hs.2.2⟩
  have hL9 := hs.1
  have hO9 : seen zs 1 ≤ 64 := Nat.le_trans List.count_le_length hL9.2
  obtain ⟨q, hq⟩ : ∃ q : Rat, q = ((((zs.length : Int) * zs.sum + (seen zs 1 : Int) * (zs.sum - 1) : Int) : Rat) / (zs.sum : Rat)) := ⟨_, rfl⟩
  rw [← hq]
  have HV := Lib.hid hq
  clear hq
  have hp1 : 0 ≤ (zs.length : Int) * zs.sum := Int.mul_nonneg (by omega) (by omega)
  have hp2 : (zs.length : Int) * zs.sum ≤ 64 * 64 := Int.mul_le_mul (by omega) (by omega) (by omega) (by omega)
  have hp3 : 0 ≤ (seen zs 1 : Int) * (zs.sum - 1) := Int.mul_nonneg (by omega) (by omega)
  have hp4 : (seen zs 1 : Int) * (zs.sum - 1) ≤ 64 * 64 := Int.mul_le_mul (by omega) (by omega) (by omega) (by omega)
  have hw1 : IntKind.i64.wrap ((zs.length : Int) * zs.sum) = (zs.length : Int) * zs.sum := wrap_in (by omega)
  have hw2 : IntKind.i64.wrap (zs.sum - 1) = zs.sum - 1 := wrap_in (by omega)
  have hw3 : IntKind.i64.wrap ((seen zs 1 : Int) * (zs.sum - 1)) = (seen zs 1 : Int) * (zs.sum - 1) := wrap_in (by omega)
  have hw4 : IntKind.i64.wrap ((zs.length : Int) * zs.sum + (seen zs 1 : Int) * (zs.sum - 1)) = (zs.length : Int) * zs.sum + (seen zs 1 : Int) * (zs.sum - 1) := wrap_in (by omega)
  have HQ := Lib.hid (show -9223372036854775808 ≤ (zs.length : Int) * zs.sum + (seen zs 1 : Int) * (zs.sum - 1) ∧ (zs.length : Int) * zs.sum + (seen zs 1 : Int) * (zs.sum - 1) ≤ 9223372036854775807 from by omega)
  have HP := Lib.hid (show -9223372036854775808 ≤ zs.sum ∧ zs.sum ≤ 9223372036854775807 from by omega)
  clear hp1 hp2 hp3 hp4
  go_enter Tryd.func30, Tryd.ntmps30
  go_upto_region 1 with (fail)
  have hF0 := FBox.new w (.bool false) (.slice none 0 0) (.slice none 0 0) 32
  have x0 : Ext w (w.alloc (.cells #[.bool false, .slice none 0 0, .slice none 0 0] 32)) := ext_alloc (Below.refl _ _) _
  have hs0 : w.heap.size + 1 ≤ (w.alloc (.cells #[.bool false, .slice none 0 0, .slice none 0 0] 32)).heap.size := by simp
  generalize w.alloc (.cells #[.bool false, .slice none 0 0, .slice none 0 0] 32) = W0 at *
  have HF := Lib.hid (fun (w' : World) (h : Ext W0 w') => hF0.below h)
  have HE := Lib.hid x0
  have f0 : Ext W0 W0 := Below.refl _ _
  obtain ⟨r0, r1, r2, g0, g1, g2⟩ := hF0
  clear x0
  have hX := hx.below HE.out
  clear hs hx
  go_upto_region 2 with (go_at_call 39; (with_reducible refine (read_ok hX HS.out).mono ?_); rintro e w1 ⟨A1, c1, rfl, h1, x1, n1⟩)
  have hB0 := FBox.new w1 (.int .i64 zs.sum) (.int .i64 zs.length) (.slice A1 (mostOf zs) c1) 52
  have x2 : Ext W0 (w1.alloc (.cells #[.int .i64 zs.sum, .int .i64 zs.length, .slice A1 (mostOf zs) c1] 52)) := ext_alloc x1 _
  have hI := h1.below (ext_alloc (Below.refl _ _) (.cells #[.int .i64 zs.sum, .int .i64 zs.length, .slice A1 (mostOf zs) c1] 52))
  have hlt1 : w1.heap.size < (w1.alloc (.cells #[.int .i64 zs.sum, .int .i64 zs.length, .slice A1 (mostOf zs) c1] 52)).heap.size := by simp
  generalize w1.alloc (.cells #[.int .i64 zs.sum, .int .i64 zs.length, .slice A1 (mostOf zs) c1] 52) = W1 at *
  have hb1 : w.heap.size + 1 ≤ w1.heap.size := Nat.le_trans hs0 x1.size
  generalize w1.heap.size = B at *
  have HI := Lib.hid hI
  have HB := Lib.hid (fun (w' : World) (h : Ext W1 w') => hB0.below h)
  have HC := Lib.hid (fun (w' : World) (h : Ext W1 w') => (⟨(hB0.below h).1, (hB0.below h).2.1, (hB0.below h).2.2.1⟩ : w'.cell? ⟨B, 0, none⟩ = some (.int .i64 zs.sum) ∧ w'.cell? ⟨B, 1, none⟩ = some (.int .i64 zs.length) ∧ w'.cell? ⟨B, 2, none⟩ = some (.slice A1 (mostOf zs) c1)))
  have HCA := Lib.hid (fun (w' : World) (h : Ext W1 w') (x y z : Value) => (fun (k : FBox _ _ _ _ _) => (⟨k.1, k.2.1, k.2.2.1⟩ : _ ∧ _ ∧ _)) (FBox.away (b' := w.heap.size) (HB.out _ h) (by omega) x y z))
  have HCB := Lib.hid (fun (w' : World) (b' : Nat) (h : Ext W1 w') (hne : b' ≠ B) (x y z : Value) => (fun (k : FBox _ _ _ _ _) => (⟨k.1, k.2.1, k.2.2.1⟩ : _ ∧ _ ∧ _)) (FBox.away (b' := b') (HB.out _ h) hne x y z))
  clear h1 hX hI n1
  obtain ⟨b0, b1, b2, _, _, _⟩ := hB0
  have f0 : Ext W1 W1 := Below.refl _ _
  go_upto_region 4 with (fail)
  go_region_held3 (fun w' => w'.cell? ⟨B, 0, none⟩ = some (.int .i64 zs.sum) ∧ w'.cell? ⟨B, 1, none⟩ = some (.int .i64 zs.length) ∧ w'.cell? ⟨B, 2, none⟩ = some (.slice A1 (mostOf zs) c1)) (first | exact HCA.out _ f3 _ _ _ | exact HC.out _ (by (repeat first | assumption | exact Below.refl _ _ | refine ext_alloc ?_ _ | refine ext_drew ?_ | refine ext_set ?_ (by first | omega | (simp; done) | (simp; omega)) _); done))
    (first
      | (go_at_call 45; (with_reducible refine (one_ok (HI.out.below (by (repeat first | assumption | exact Below.refl _ _ | refine ext_alloc ?_ _ | refine ext_drew ?_ | refine ext_set ?_ (by first | omega | (simp; done) | (simp; omega)) _); done)) HS.out).mono ?_); rintro _ s1 ⟨rfl, z1⟩; have f1 : Ext W1 s1 := Ext.trans (by (repeat first | assumption | exact Below.refl _ _ | refine ext_alloc ?_ _ | refine ext_drew ?_ | refine ext_set ?_ (by first | omega | (simp; done) | (simp; omega)) _); done) z1)
      | (go_at_call 26; (with_reducible refine (fof_n HQ.out HP.out).mono ?_); rintro _ s3 ⟨b3, A3, k3, c3, B3, l3, d3, rfl, h3, z3, n3, m3⟩; have f3 : Ext W1 s3 := Ext.trans (by (repeat first | assumption | exact Below.refl _ _ | refine ext_alloc ?_ _ | refine ext_drew ?_ | refine ext_set ?_ (by first | omega | (simp; done) | (simp; omega)) _); done) z3; obtain ⟨r0, r1, r2, g0, g1, g2⟩ := HF.out _ (x2.trans f3)))
  all_goals go_wp2
  all_goals
    obtain ⟨q0, q1, q2⟩ := set3 r0 r1 r2 (.bool b3) (.slice A3 k3 c3) (.slice B3 l3 d3)
    refine bodyPost_ret (v := .tuple #[.agg #[.bool b3, .slice A3 k3 c3, .slice B3 l3 d3], .int .i64 0]) (by simp [results, Tryd.results30, go_sem, q0, q1, q2]) rfl ?_
    exact GivesFE.box (HE.out.trans (x2.trans f3)) (by rw [HV.out]; exact h3) (n3.mono (by have := x2.size; have := f1.size; omega)) (m3.mono (by have := x2.size; have := f1.size; omega)) (Nat.le_refl _)


end Go.Proofs.YtkjcbfaimonaoaaDoor
