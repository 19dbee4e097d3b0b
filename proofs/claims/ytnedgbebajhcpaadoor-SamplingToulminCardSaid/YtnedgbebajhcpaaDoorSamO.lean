/- sampling: Toulmin's errors. -/
import Derived.Test.YtnedgbebajhcpaaDoorSamV
set_option linter.unusedVariables false
set_option linter.unusedSimpArgs false
set_option maxRecDepth 100000
namespace Go.Proofs.YtnedgbebajhcpaaDoor
open Go.RowKit Num

/-- The numbers are within their limits. -/
def NumsIn (us : List Int) : Prop := ∀ u ∈ us, 0 ≤ u ∧ u ≤ 64
theorem stoul_long {zs : List Int} {t : Int} {A : Option Addr} {c : Nat} {w : World} (hl : 64 < zs.length) :
    Calls Tryd.prog 19 #[.slice A zs.length c, .int .i64 t] w (GivesFN w 1) := by
  have e64 : decide ((64 : Int) < (zs.length : Int)) = true := decide_eq_true (by omega)
  go_enter Tryd.func19, Tryd.ntmps19
  go_upto_region 1 with (fail)
  have hF0 := FBox.new w (.bool false) (.slice none 0 0) (.slice none 0 0) 28
  have x0 : Ext w (w.alloc (.cells #[.bool false, .slice none 0 0, .slice none 0 0] 28)) := ext_alloc (Below.refl _ _) _
  have hs0 : w.heap.size + 1 ≤ (w.alloc (.cells #[.bool false, .slice none 0 0, .slice none 0 0] 28)).heap.size := by simp
  generalize w.alloc (.cells #[.bool false, .slice none 0 0, .slice none 0 0] 28) = W0 at *
  have HF := Lib.hid (fun (w' : World) (h : Ext W0 w') => hF0.below h)
  have HE := Lib.hid x0
  have f0 : Ext W0 W0 := Below.refl _ _
  obtain ⟨r0, r1, r2, g0, g1, g2⟩ := hF0
  clear x0
  go_wp2
  obtain ⟨q0, q1, q2⟩ := set3 r0 r1 r2 (.bool false) (.slice none 0 0) (.slice none 0 0)
  refine bodyPost_ret (v := .tuple #[.agg #[.bool false, .slice none 0 0, .slice none 0 0], .int .i64 1]) (by simp [results, Tryd.results19, go_sem, q0, q1, q2]) rfl ?_
  exact ⟨rfl, ext_put HE.out (Nat.le_refl _) _ _ _⟩
set_option maxHeartbeats 4000000 in
theorem stoul_bad {zs : List Int} {t : Int} {A : Option Addr} {c : Nat} {w : World} (hv : IntsV w (.slice A zs.length c) zs) (hl : zs.length ≤ 64) (hu : ¬ NumsIn zs) :
    Calls Tryd.prog 19 #[.slice A zs.length c, .int .i64 t] w (GivesFN w 1) := by
  have HV := Lib.hid (fun (w' : World) (h : Ext w w') => hv.below h)
  have HU := Lib.hid hu
  have e64 : decide ((64 : Int) < (zs.length : Int)) = false := decide_eq_false (by omega)
  clear hv hu
  go_enter Tryd.func19, Tryd.ntmps19
  go_upto_region 1 with (fail)
  have hF0 := FBox.new w (.bool false) (.slice none 0 0) (.slice none 0 0) 28
  have x0 : Ext w (w.alloc (.cells #[.bool false, .slice none 0 0, .slice none 0 0] 28)) := ext_alloc (Below.refl _ _) _
  have hs0 : w.heap.size + 1 ≤ (w.alloc (.cells #[.bool false, .slice none 0 0, .slice none 0 0] 28)).heap.size := by simp
  generalize w.alloc (.cells #[.bool false, .slice none 0 0, .slice none 0 0] 28) = W0 at *
  have HF := Lib.hid (fun (w' : World) (h : Ext W0 w') => hF0.below h)
  have HE := Lib.hid x0
  have f0 : Ext W0 W0 := Below.refl _ _
  obtain ⟨r0, r1, r2, g0, g1, g2⟩ := hF0
  clear x0
  go_wp2
  go_loop [18] (fun iv => ∃ k : Nat, (k ≤ zs.length ∧ NumsIn (zs.take k)) ∧ iv = .int .i64 k) (fun iv => zs.length - (intOf iv).toNat)
  case atStart => exact ⟨0, ⟨Nat.zero_le _, by intro u hu; simp at hu⟩, rfl⟩
  case round =>
    obtain ⟨k, ⟨hk, hu⟩, rfl⟩ := hrel
    by_cases hkn : k < zs.length
    · obtain ⟨b, o, rfl, hb, hc⟩ := (HV.out _ HE.out).plS hkn
      have HTK := Lib.hid hu
      obtain ⟨x, hx⟩ : ∃ x, x = zs.getD k 0 := ⟨_, rfl⟩
      have HX := Lib.hid hx
      rw [← hx] at hc
      have hi1 : (0 : Int) ≤ (k : Int) := by omega
      have hi2 : (k : Int) < (zs.length : Int) := by omega
      have hwk : IntKind.i64.wrap ((k : Int) + 1) = (k : Int) + 1 := wrap_in (by omega)
      clear hx hu
      by_cases h1 : 0 ≤ x ∧ x ≤ 64
      · have H1 := Lib.hid h1
        clear h1
        go_wp2_with (go_at_call 32; (with_reducible refine (swithin_t (n := x) H1.out.1 H1.out.2).mono ?_); rintro _ s1 ⟨rfl, hs1⟩; obtain rfl : W0 = s1 := hs1.symm)
        go_round
        case rel => exact ⟨k + 1, ⟨by omega, by
          intro u hu
          rw [List.take_add_one, List.mem_append] at hu
          rcases hu with hu | hu
          · exact HTK.out u hu
          · rw [List.getElem?_eq_getElem hkn] at hu
            simp at hu
            subst hu
            have h1 := H1.out
            rw [HX.out, List.getD_eq_getElem?_getD, List.getElem?_eq_getElem hkn] at h1
            exact h1⟩, by go_num⟩
        case measure => simp [intOf]; omega
      · have H3 := Lib.hid (show x < 0 ∨ 64 < x from by omega)
        clear h1
        go_wp2_with (go_at_call 32; (with_reducible refine (swithin_f (n := x) H3.out).mono ?_); rintro _ s1 ⟨rfl, hs1⟩; obtain rfl : W0 = s1 := hs1.symm)
        obtain ⟨q0, q1, q2⟩ := set3 r0 r1 r2 (.bool false) (.slice none 0 0) (.slice none 0 0)
        refine bodyPost_ret (v := .tuple #[.agg #[.bool false, .slice none 0 0, .slice none 0 0], .int .i64 1]) (by simp [results, Tryd.results19, go_sem, q0, q1, q2]) rfl ?_
        exact ⟨rfl, ext_put HE.out (Nat.le_refl _) _ _ _⟩
    · exfalso
      rw [List.take_of_length_le (by omega)] at hu
      exact HU.out hu
set_option maxHeartbeats 4000000 in
theorem stoul_times {zs : List Int} {t : Int} {A : Option Addr} {c : Nat} {w : World} (hv : IntsV w (.slice A zs.length c) zs) (hl : zs.length ≤ 64) (hz : NumsIn zs) (ht : t < 0 ∨ 8 < t) :
    Calls Tryd.prog 19 #[.slice A zs.length c, .int .i64 t] w (GivesFN w 2) := by
  have HV := Lib.hid (fun (w' : World) (h : Ext w w') => hv.below h)
  have HZ := Lib.hid hz
  have HTT := Lib.hid ht
  have e64 : decide ((64 : Int) < (zs.length : Int)) = false := decide_eq_false (by omega)
  clear hv hz ht
  go_enter Tryd.func19, Tryd.ntmps19
  go_upto_region 1 with (fail)
  have hF0 := FBox.new w (.bool false) (.slice none 0 0) (.slice none 0 0) 28
  have x0 : Ext w (w.alloc (.cells #[.bool false, .slice none 0 0, .slice none 0 0] 28)) := ext_alloc (Below.refl _ _) _
  have hs0 : w.heap.size + 1 ≤ (w.alloc (.cells #[.bool false, .slice none 0 0, .slice none 0 0] 28)).heap.size := by simp
  generalize w.alloc (.cells #[.bool false, .slice none 0 0, .slice none 0 0] 28) = W0 at *
  have HF := Lib.hid (fun (w' : World) (h : Ext W0 w') => hF0.below h)
  have HE := Lib.hid x0
  have f0 : Ext W0 W0 := Below.refl _ _
  obtain ⟨r0, r1, r2, g0, g1, g2⟩ := hF0
  clear x0
  go_wp2
  go_loop [18] (fun iv => ∃ k : Nat, k ≤ zs.length ∧ iv = .int .i64 k) (fun iv => zs.length - (intOf iv).toNat)
  case atStart => exact ⟨0, Nat.zero_le _, rfl⟩
  case round =>
    obtain ⟨k, hk, rfl⟩ := hrel
    by_cases hkn : k < zs.length
    · obtain ⟨b, o, rfl, hb, hc⟩ := (HV.out _ HE.out).plS hkn
      obtain ⟨x, hx⟩ : ∃ x, x = zs.getD k 0 := ⟨_, rfl⟩
      obtain ⟨h1, h2⟩ := HZ.out _ (getD_memS hkn)
      rw [← hx] at hc h1 h2
      have hi1 : (0 : Int) ≤ (k : Int) := by omega
      have hi2 : (k : Int) < (zs.length : Int) := by omega
      have hwk : IntKind.i64.wrap ((k : Int) + 1) = (k : Int) + 1 := wrap_in (by omega)
      clear hx
      go_wp2_with (go_at_call 32; (with_reducible refine (swithin_t (n := x) h1 h2).mono ?_); rintro _ s1 ⟨rfl, hs1⟩; obtain rfl : W0 = s1 := hs1.symm)
      go_round
      case rel => exact ⟨k + 1, by omega, by go_num⟩
      case measure => simp [intOf]; omega
    · obtain rfl : k = zs.length := by omega
      have hkk : ¬ ((zs.length : Int) < (zs.length : Int)) := by omega
      go_wp2_with (go_at_call 32; (with_reducible refine (swithin_f (n := t) HTT.out).mono ?_); rintro _ s1 ⟨rfl, hs1⟩; obtain rfl : W0 = s1 := hs1.symm)
      obtain ⟨q0, q1, q2⟩ := set3 r0 r1 r2 (.bool false) (.slice none 0 0) (.slice none 0 0)
      refine bodyPost_ret (v := .tuple #[.agg #[.bool false, .slice none 0 0, .slice none 0 0], .int .i64 2]) (by simp [results, Tryd.results19, go_sem, q0, q1, q2]) rfl ?_
      exact ⟨rfl, ext_put HE.out (Nat.le_refl _) _ _ _⟩

end Go.Proofs.YtnedgbebajhcpaaDoor
