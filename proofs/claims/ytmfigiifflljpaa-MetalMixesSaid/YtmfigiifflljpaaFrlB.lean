/- base.Fractions of two lists of the same fractions. -/
import Derived.Test.YtmfigiifflljpaaFrl
set_option linter.unusedVariables false
set_option linter.unusedSimpArgs false
set_option maxRecDepth 100000
namespace Go.Proofs.Ytmfigiifflljpaa
open Go.RowKit Num

set_option maxHeartbeats 2000000 in
theorem bfracs_same {B B' : Nat} {x y : Value} {qs : List Rat} {w : World} (hx : FracsV B w x qs) (hy : FracsV B' w y qs) :
    Calls Try.prog 26 #[x, y] w (fun e w' => e = .returned (.bool true) ∧ Ext w w') := by
  obtain ⟨A, ca, rfl, a1, a2⟩ := hx.form
  obtain ⟨A', cb, rfl, b1, b2⟩ := hy.form
  have HX := Lib.hid (fun (w' : World) (h : Ext w w') => hx.ext h)
  have HY := Lib.hid (fun (w' : World) (h : Ext w w') => hy.ext h)
  clear hx hy
  go_enter Try.func26, Try.ntmps26
  go_wp2
  go_loopw [5] (fun iv wr => ∃ k : Nat, k ≤ qs.length ∧ iv = .int .i64 k ∧ Ext w wr) (fun iv _ => qs.length - (intOf iv).toNat)
  case atStart => exact ⟨0, Nat.zero_le _, rfl, Below.refl _ _⟩
  case round =>
    obtain ⟨k, hk, rfl, hr⟩ := hrel
    by_cases hkl : k < qs.length
    · obtain ⟨q, hq⟩ : ∃ q, qs[k]? = some q := ⟨_, List.getElem?_eq_getElem hkl⟩
      obtain ⟨b, o, neg, A1, k1, c1, A2, k2, c2, rfl, hb, e0, e1, e2, fv, _, _⟩ := (HX.out _ hr).at_ hq
      obtain ⟨b', o', neg', A1', k1', c1', A2', k2', c2', rfl, hb', e0', e1', e2', fv', _, _⟩ := (HY.out _ hr).at_ hq
      have HV := Lib.hid (fun (w' : World) (h : Ext wr w') => (⟨fv.below h, fv'.below h⟩ : FracV w' neg (.slice A1 k1 c1) (.slice A2 k2 c2) q ∧ FracV w' neg' (.slice A1' k1' c1') (.slice A2' k2' c2') q))
      have HC := Lib.hid (fun (w' : World) (h : Ext wr w') => (⟨(h.cell (p := ⟨b, o + k * 3, none⟩) hb).trans e0, (h.cell (p := ⟨b, o + k * 3 + 1, none⟩) hb).trans e1, (h.cell (p := ⟨b, o + k * 3 + 2, none⟩) hb).trans e2, (h.cell (p := ⟨b', o' + k * 3, none⟩) hb').trans e0', (h.cell (p := ⟨b', o' + k * 3 + 1, none⟩) hb').trans e1', (h.cell (p := ⟨b', o' + k * 3 + 2, none⟩) hb').trans e2'⟩ : w'.cell? ⟨b, o + k * 3, none⟩ = some (.bool neg) ∧ w'.cell? ⟨b, o + k * 3 + 1, none⟩ = some (.slice A1 k1 c1) ∧ w'.cell? ⟨b, o + k * 3 + 2, none⟩ = some (.slice A2 k2 c2) ∧ w'.cell? ⟨b', o' + k * 3, none⟩ = some (.bool neg') ∧ w'.cell? ⟨b', o' + k * 3 + 1, none⟩ = some (.slice A1' k1' c1') ∧ w'.cell? ⟨b', o' + k * 3 + 2, none⟩ = some (.slice A2' k2' c2')))
      have hd : decide (k < qs.length) = true := by simpa using hkl
      have hi1 : (0 : Int) ≤ (k : Int) := by omega
      have hi2 : (k : Int) < (qs.length : Int) := by omega
      have f0 : Ext wr wr := Below.refl _ _
      have HR := Lib.hid hr
      clear fv fv' hq hr
      go_wp2_with fail
      first
        | (go_region_held3 (fun w' => w'.cell? ⟨b, o + k * 3, none⟩ = some (.bool neg) ∧ w'.cell? ⟨b, o + k * 3 + 1, none⟩ = some (.slice A1 k1 c1) ∧ w'.cell? ⟨b, o + k * 3 + 2, none⟩ = some (.slice A2 k2 c2) ∧ w'.cell? ⟨b', o' + k * 3, none⟩ = some (.bool neg') ∧ w'.cell? ⟨b', o' + k * 3 + 1, none⟩ = some (.slice A1' k1' c1') ∧ w'.cell? ⟨b', o' + k * 3 + 2, none⟩ = some (.slice A2' k2' c2')) (exact HC.out _ (by first | ((repeat first | assumption | exact Below.refl _ _ | refine ext_alloc ?_ _ | refine ext_drew ?_ | refine ext_set ?_ (by first | omega | (simp; done) | (simp; omega)) _); done) | fail))
            (first | (go_at_call 20; (with_reducible refine (bfrac_same (HV.out _ (by first | ((repeat first | assumption | exact Below.refl _ _ | refine ext_alloc ?_ _ | refine ext_drew ?_ | refine ext_set ?_ (by first | omega | (simp; done) | (simp; omega)) _); done) | fail)).1 (HV.out _ (by first | ((repeat first | assumption | exact Below.refl _ _ | refine ext_alloc ?_ _ | refine ext_drew ?_ | refine ext_set ?_ (by first | omega | (simp; done) | (simp; omega)) _); done) | fail)).2).mono ?_); rintro _ s1 ⟨rfl, z1⟩; have f1 : Ext wr s1 := Ext.trans (by first | ((repeat first | assumption | exact Below.refl _ _ | refine ext_alloc ?_ _ | refine ext_drew ?_ | refine ext_set ?_ (by first | omega | (simp; done) | (simp; omega)) _); done) | fail) z1)))
        | (go_wp2_with (go_at_call 20; (with_reducible refine (bfrac_same (HV.out _ (by first | ((repeat first | assumption | exact Below.refl _ _ | refine ext_alloc ?_ _ | refine ext_drew ?_ | refine ext_set ?_ (by first | omega | (simp; done) | (simp; omega)) _); done) | fail)).1 (HV.out _ (by first | ((repeat first | assumption | exact Below.refl _ _ | refine ext_alloc ?_ _ | refine ext_drew ?_ | refine ext_set ?_ (by first | omega | (simp; done) | (simp; omega)) _); done) | fail)).2).mono ?_); rintro _ s1 ⟨rfl, z1⟩; have f1 : Ext wr s1 := Ext.trans (by first | ((repeat first | assumption | exact Below.refl _ _ | refine ext_alloc ?_ _ | refine ext_drew ?_ | refine ext_set ?_ (by first | omega | (simp; done) | (simp; omega)) _); done) | fail) z1))
      all_goals go_wp2
      all_goals go_roundw
      all_goals first
        | exact ⟨k + 1, by omega, by go_num, HR.out.trans (by first | ((repeat first | assumption | exact Below.refl _ _ | refine ext_alloc ?_ _ | refine ext_drew ?_ | refine ext_set ?_ (by first | omega | (simp; done) | (simp; omega)) _); done) | fail)⟩
        | (simp [intOf]; omega)
    · go_wp2
      go_ret
      exact ⟨rfl, hr⟩

end Go.Proofs.Ytmfigiifflljpaa
