/- base.Natural and base.Fraction of equal canonical values. -/
import Derived.Test.YtkjcbfaimonaoaaDoorFrac
import Derived.Test.YtkjcbfaimonaoaaDoorBoxes
import Derived.BigQuiet
import Derived.Deep.QuietTactic
import Derived.Deep.RegionHeld3
set_option linter.unusedVariables false
set_option linter.unusedSimpArgs false
set_option maxRecDepth 100000
namespace Go.Proofs.YtkjcbfaimonaoaaDoor
open Go.RowKit Num

set_option maxHeartbeats 1000000 in
/-- Two canonical Naturals of one value are the same limb by limb. -/
theorem bnat_eq {x y : Value} {n : Nat} {w : World} (hx : CanV w x n) (hy : CanV w y n) :
    Calls Tryd.prog 44 #[.agg #[x], .agg #[y]] w (fun e w' => e = .returned (.bool true) ∧ Ext w w') := by
  obtain ⟨A, ca, rfl, a1, a2, a3⟩ := hx
  obtain ⟨B, cb, rfl, b1, b2, b3⟩ := hy
  generalize limbsOf n = xs at *
  go_enter Tryd.func44, Tryd.ntmps44
  go_upto_region 1 with (fail)
  have hB0 : Boxes w ((w.alloc (.cells #[.slice A xs.length ca] 30)).alloc (.cells #[.slice B xs.length cb] 30)) [[.slice A xs.length ca], [.slice B xs.length cb]] := ((Boxes.nil_ w).alloc rfl [.slice A xs.length ca] 30).alloc (by simp) [.slice B xs.length cb] 30
  generalize (w.alloc (.cells #[.slice A xs.length ca] 30)).alloc (.cells #[.slice B xs.length cb] 30) = W0 at *
  obtain ⟨cx, fx⟩ : W0.cell? ⟨w.heap.size, 0, none⟩ = some (.slice A xs.length ca) ∧ W0.frozen? ⟨w.heap.size, 0, none⟩ = false := hB0.cell 0 _ 0 _ rfl rfl
  obtain ⟨cy, fy⟩ : W0.cell? ⟨w.heap.size + 1, 0, none⟩ = some (.slice B xs.length cb) ∧ W0.frozen? ⟨w.heap.size + 1, 0, none⟩ = false := hB0.cell 1 _ 0 _ rfl rfl
  have hE := hB0.ext
  have r1 := a3.below hE
  have r2 := b3.below hE
  clear hB0 a3 b3
  go_wp2
  go_loopw [5] (fun iv wr => ∃ k : Nat, k ≤ xs.length ∧ iv = .int .i64 k ∧ Ext W0 wr) (fun iv _ => xs.length - (intOf iv).toNat)
  case atStart => exact ⟨0, Nat.zero_le _, rfl, Below.refl _ _⟩
  case round =>
    obtain ⟨k, hk, rfl, hx⟩ := hrel
    have cxr := (hx.cell (p := ⟨w.heap.size, 0, none⟩) (World.block_lt_of_cell? _ _ cx)).trans cx
    have cyr := (hx.cell (p := ⟨w.heap.size + 1, 0, none⟩) (World.block_lt_of_cell? _ _ cy)).trans cy
    by_cases hkl : k < xs.length
    · obtain ⟨ad, u, rfl, hb1, hu1, hc1⟩ := (r1.below hx).at_ (k := k) (by omega)
      obtain ⟨bd, v, rfl, hb2, hv1, hc2⟩ := (r2.below hx).at_ (k := k) (by omega)
      rw [hu1] at hv1
      cases hv1
      have hu2 : u = .int .u32 (xs[k] : Int) := by simpa [u32s, hkl] using hu1.symm
      subst hu2
      clear hu1
      generalize (xs[k] : Int) = z at *
      go_wp2
      go_quiet (fail)
      go_wp2
      go_roundw
      case rel => exact ⟨k + 1, by omega, by go_num, hx.drewN _⟩
      case measure => simp [intOf]; omega
    · go_wp2
      go_ret
      exact ⟨rfl, hE.trans hx⟩

set_option maxHeartbeats 2000000 in
theorem bfrac_eq {b : Bool} {s t s' t' : Value} {n d : Nat} {w : World} (hx1 : CanV w s n) (hx2 : CanV w t d) (hy1 : CanV w s' n) (hy2 : CanV w t' d) :
    Calls Tryd.prog 19 #[.agg #[.bool b, s, t], .agg #[.bool b, s', t']] w (fun e w' => e = .returned (.bool true) ∧ Ext w w') := by
  go_enter Tryd.func19, Tryd.ntmps19
  go_upto_region 1 with (fail)
  have hX0 := (FBox.new w (.bool b) s t 32).below (ext_alloc (Below.refl _ _) (.cells #[.bool b, s', t'] 32))
  have hY0 := FBox.new (w.alloc (.cells #[.bool b, s, t] 32)) (.bool b) s' t' 32
  rw [show (w.alloc (.cells #[.bool b, s, t] 32)).heap.size = w.heap.size + 1 from by simp] at hY0
  have x0 : Ext w ((w.alloc (.cells #[.bool b, s, t] 32)).alloc (.cells #[.bool b, s', t'] 32)) := ext_alloc (ext_alloc (Below.refl _ _) _) _
  generalize (w.alloc (.cells #[.bool b, s, t] 32)).alloc (.cells #[.bool b, s', t'] 32) = W0 at *
  have HX := Lib.hid (fun (w' : World) (h : Ext W0 w') => hX0.below h)
  have HY := Lib.hid (fun (w' : World) (h : Ext W0 w') => hY0.below h)
  have H1 := Lib.hid (fun (w' : World) (h : Ext W0 w') => (⟨hx1.below (x0.trans h), hy1.below (x0.trans h)⟩ : CanV w' s n ∧ CanV w' s' n))
  have H2 := Lib.hid (fun (w' : World) (h : Ext W0 w') => (⟨hx2.below (x0.trans h), hy2.below (x0.trans h)⟩ : CanV w' t d ∧ CanV w' t' d))
  obtain ⟨r0, r1, r2, _, _, _⟩ := hX0
  obtain ⟨b0, b1, b2, _, _, _⟩ := hY0
  clear hx1 hx2 hy1 hy2
  have f0 : Ext W0 W0 := Below.refl _ _
  go_wp2_with (first
    | (go_at_call 44; (with_reducible refine (bnat_eq (H1.out _ (by repeat first | assumption | exact Below.refl _ _ | refine ext_alloc ?_ _ | refine ext_drew ?_ | refine ext_set ?_ (by first | omega | (simp; done) | (simp; omega)) _)).1 (H1.out _ (by repeat first | assumption | exact Below.refl _ _ | refine ext_alloc ?_ _ | refine ext_drew ?_ | refine ext_set ?_ (by first | omega | (simp; done) | (simp; omega)) _)).2).mono ?_); rintro e s1 ⟨rfl, z1⟩; have f1 : Ext W0 s1 := Ext.trans (by repeat first | assumption | exact Below.refl _ _ | refine ext_alloc ?_ _ | refine ext_drew ?_ | refine ext_set ?_ (by first | omega | (simp; done) | (simp; omega)) _) z1; obtain ⟨r0, r1, r2, _, _, _⟩ := HX.out _ f1; obtain ⟨b0, b1, b2, _, _, _⟩ := HY.out _ f1)
    | (go_at_call 44; (with_reducible refine (bnat_eq (H2.out _ (by repeat first | assumption | exact Below.refl _ _ | refine ext_alloc ?_ _ | refine ext_drew ?_ | refine ext_set ?_ (by first | omega | (simp; done) | (simp; omega)) _)).1 (H2.out _ (by repeat first | assumption | exact Below.refl _ _ | refine ext_alloc ?_ _ | refine ext_drew ?_ | refine ext_set ?_ (by first | omega | (simp; done) | (simp; omega)) _)).2).mono ?_); rintro e s2 ⟨rfl, z2⟩; have f2 : Ext W0 s2 := Ext.trans (by repeat first | assumption | exact Below.refl _ _ | refine ext_alloc ?_ _ | refine ext_drew ?_ | refine ext_set ?_ (by first | omega | (simp; done) | (simp; omega)) _) z2))
  go_ret
  exact ⟨rfl, x0.trans f2⟩

theorem bfrac_same {b : Bool} {s t s' t' : Value} {q : Rat} {w : World} (hx : FracV w b s t q) {b' : Bool} (hy : FracV w b' s' t' q) :
    Calls Tryd.prog 19 #[.agg #[.bool b, s, t], .agg #[.bool b', s', t']] w (fun e w' => e = .returned (.bool true) ∧ Ext w w') := by
  obtain ⟨rfl, hx1, hx2⟩ := hx
  obtain ⟨rfl, hy1, hy2⟩ := hy
  exact bfrac_eq hx1 hx2 hy1 hy2

end Go.Proofs.YtkjcbfaimonaoaaDoor
