/- sampling: Gain; Split's errors. sampling: Gain of lists that do not fit. sampling: Split and Gain of what is no plan. -/
import Derived.Test.YtnedgbebajhcpaaDoorSamV
set_option linter.unusedVariables false
set_option linter.unusedSimpArgs false
set_option maxRecDepth 100000
namespace Go.Proofs.YtnedgbebajhcpaaDoor
open Go.RowKit Num

set_option maxHeartbeats 4000000 in
theorem sGain_ok {D l : List Nat} {A B : Option Addr} {c d : Nat} {w : World} (hD : PlanN D) (hlen : l.length = D.length) (hl : ∀ x ∈ l, x ≤ 30)
    (hv : IntsV w (.slice A (natsS D).length c) (natsS D)) (hy : IntsV w (.slice B (natsS l).length d) (natsS l)) (ht : Tab10 w) :
    Calls Tryd.prog 17 #[.slice A (natsS D).length c, .slice B (natsS l).length d] w (GivesFE w (gl D l)) := by
  have HV := Lib.hid (fun (w' : World) (h : Ext w w') => hv.below h)
  have HY := Lib.hid (fun (w' : World) (h : Ext w w') => hy.below h)
  have HPI := Lib.hid (planN_in hD)
  have HGA := Lib.hid (fun (w' : World) (h : Ext w w') => sgain_ok hD hlen hl (hv.below h) (hy.below h) (ht.ext h))
  have HNL := Lib.hid (show (natsS l).length = (natsS D).length from by rw [natsS_length, natsS_length, hlen])
  have HLL := Lib.hid (natsS_length l)
  have HL := Lib.hid hl
  have hnl := HNL.out
  rw [hnl] at HGA
  have hd4 := HPI.out.1.2
  have hl4 : (natsS l).length ≤ 4 := by rw [HNL.out]; exact hd4
  clear hD hl hv hy ht hlen
  go_enter Tryd.func17, Tryd.ntmps17
  go_upto_region 1 with (fail)
  have hF0 := FBox.new w (.bool false) (.slice none 0 0) (.slice none 0 0) 28
  have x0 : Ext w (w.alloc (.cells #[.bool false, .slice none 0 0, .slice none 0 0] 28)) := ext_alloc (Below.refl _ _) _
  have hs0 : w.heap.size + 1 ≤ (w.alloc (.cells #[.bool false, .slice none 0 0, .slice none 0 0] 28)).heap.size := by simp
  generalize w.alloc (.cells #[.bool false, .slice none 0 0, .slice none 0 0] 28) = W0 at *
  have HF := Lib.hid (fun (w' : World) (h : Ext W0 w') => hF0.below h)
  have HE := Lib.hid x0
  have f0 : Ext W0 W0 := Below.refl _ _
  obtain ⟨r0, r1, r2, g0, g1, g2⟩ := hF0
  clear x0
  go_wp2_with (go_at_call 40; (with_reducible refine (splan_t (HV.out _ HE.out) HPI.out.1 HPI.out.2).mono ?_); rintro e w1 ⟨rfl, hw1⟩; obtain rfl : W0 = w1 := hw1.symm)
  go_loop [21] (fun iv => ∃ k : Nat, k ≤ l.length ∧ iv = .int .i64 k) (fun iv => l.length - (intOf iv).toNat)
  case atStart => exact ⟨0, Nat.zero_le _, rfl⟩
  case round =>
    obtain ⟨k, hk, rfl⟩ := hrel
    by_cases hkn : k < l.length
    · obtain ⟨b, o, rfl, hb, hc⟩ := (HY.out _ HE.out).plS (k := k) (by rw [HLL.out]; exact hkn)
      rw [getD_natsS hkn] at hc
      have hm := HL.out _ (at0_mem hkn)
      obtain ⟨x, hx⟩ : ∃ x, x = at0 l k := ⟨_, rfl⟩
      rw [← hx] at hc hm
      have hi1 : (0 : Int) ≤ (k : Int) := by omega
      have hi2 : (k : Int) < ((natsS D).length : Int) := by rw [← HNL.out, HLL.out]; omega
      have hwk : IntKind.i64.wrap ((k : Int) + 1) = (k : Int) + 1 := wrap_in (by omega)
      clear hx
      go_wp2_with (go_at_call 32; (with_reducible refine (swithin_t (n := (x : Int)) (by omega) (by omega)).mono ?_); rintro _ s1 ⟨rfl, hs1⟩; obtain rfl : W0 = s1 := hs1.symm)
      go_round
      case rel => exact ⟨k + 1, by omega, by go_num⟩
      case measure => simp [intOf]; omega
    · obtain rfl : k = l.length := by omega
      have hkk : ¬ ((l.length : Int) < ((natsS D).length : Int)) := by rw [← HNL.out, HLL.out]; omega
      go_wp2_with (go_at_call 43; (with_reducible refine (HGA.out _ HE.out).mono ?_); rintro _ s3 ⟨b3, A3, k3, c3, B3, l3, d3, rfl, h3, z3, n3, m3⟩; obtain ⟨r0, r1, r2, g0, g1, g2⟩ := HF.out _ z3)
      obtain ⟨q0, q1, q2⟩ := set3 r0 r1 r2 (.bool b3) (.slice A3 k3 c3) (.slice B3 l3 d3)
      refine bodyPost_ret (v := .tuple #[.agg #[.bool b3, .slice A3 k3 c3, .slice B3 l3 d3], .int .i64 0]) (by simp [results, Tryd.results17, go_sem, q0, q1, q2]) rfl ?_
      exact GivesFE.box (HE.out.trans z3) h3 (n3.mono (by omega)) (m3.mono (by omega)) (Nat.le_refl _)

/-- More specimens than are to be divided. -/
theorem split_no {D : List Nat} {m : Int} {A : Option Addr} {c : Nat} {w : World} (hD : PlanN D) (hm : m < 0 ∨ 12 < m) (hv : IntsV w (.slice A (natsS D).length c) (natsS D)) :
    Calls Tryd.prog 16 #[.slice A (natsS D).length c, .int .i64 m] w (GivesIL w [] 2) := by
  have HV := Lib.hid (fun (w' : World) (h : Ext w w') => hv.below h)
  have HPI := Lib.hid (planN_in hD)
  have HM := Lib.hid hm
  clear hD hm hv
  go_enter Tryd.func16, Tryd.ntmps16
  go_upto_region 1 with (fail)
  have q0 : (w.alloc (.cells #[.slice A (natsS D).length c] 36)).cell? ⟨w.heap.size, 0, none⟩ = some (.slice A (natsS D).length c) := by simp [go_sem]
  have x0 : Ext w (w.alloc (.cells #[.slice A (natsS D).length c] 36)) := ext_alloc (Below.refl _ _) _
  generalize w.alloc (.cells #[.slice A (natsS D).length c] 36) = W0 at *
  go_wp2_with (first
    | (go_at_call 40; (with_reducible refine (splan_t (HV.out _ x0) HPI.out.1 HPI.out.2).mono ?_); rintro e w1 ⟨rfl, hw1⟩; obtain rfl : W0 = w1 := hw1.symm)
    | (go_at_call 32; (with_reducible refine (swithin_f (n := m) HM.out).mono ?_); rintro e w1 ⟨rfl, hw1⟩; obtain rfl : W0 = w1 := hw1.symm))
  go_ret2
  exact ⟨none, 0, rfl, IntsV.nil_ _, x0⟩

end Go.Proofs.YtnedgbebajhcpaaDoor
namespace Go.Proofs.YtnedgbebajhcpaaDoor
open Go.RowKit Num

theorem sGain_len {us : List Int} {A B : Option Addr} {c n d : Nat} {w : World} (hu : (1 ≤ us.length ∧ us.length ≤ 4) ∧ PlanIn us) (hn : n ≠ us.length) (hv : IntsV w (.slice A us.length c) us) :
    Calls Tryd.prog 17 #[.slice A us.length c, .slice B n d] w (GivesFN w 1) := by
  have HV := Lib.hid (fun (w' : World) (h : Ext w w') => hv.below h)
  have HU := Lib.hid hu
  have e1 : decide ((n : Int) = (us.length : Int)) = false := decide_eq_false (by omega)
  have e2 : ((n : Int) == (us.length : Int)) = false := by rw [beq_eq_false_iff_ne]; omega
  have e3 : ¬ (n = us.length) := hn
  clear hu hv hn
  go_enter Tryd.func17, Tryd.ntmps17
  go_upto_region 1 with (fail)
  have hF0 := FBox.new w (.bool false) (.slice none 0 0) (.slice none 0 0) 28
  have x0 : Ext w (w.alloc (.cells #[.bool false, .slice none 0 0, .slice none 0 0] 28)) := ext_alloc (Below.refl _ _) _
  have hs0 : w.heap.size + 1 ≤ (w.alloc (.cells #[.bool false, .slice none 0 0, .slice none 0 0] 28)).heap.size := by simp
  generalize w.alloc (.cells #[.bool false, .slice none 0 0, .slice none 0 0] 28) = W0 at *
  have HF := Lib.hid (fun (w' : World) (h : Ext W0 w') => hF0.below h)
  have HE := Lib.hid x0
  have f0 : Ext W0 W0 := Below.refl _ _
  obtain ⟨r0, r1, r2, g0, g1, g2⟩ := hF0
  clear x0
  go_wp2_with (go_at_call 40; (with_reducible refine (splan_t (HV.out _ HE.out) HU.out.1 HU.out.2).mono ?_); rintro e w1 ⟨rfl, hw1⟩; obtain rfl : W0 = w1 := hw1.symm)
  obtain ⟨q0, q1, q2⟩ := set3 r0 r1 r2 (.bool false) (.slice none 0 0) (.slice none 0 0)
  refine bodyPost_ret (v := .tuple #[.agg #[.bool false, .slice none 0 0, .slice none 0 0], .int .i64 1]) (by simp [results, Tryd.results17, go_sem, q0, q1, q2]) rfl ?_
  exact ⟨rfl, ext_put HE.out (Nat.le_refl _) _ _ _⟩

/-- The specimens are within their limits. -/
def SpecIn (us : List Int) : Prop := ∀ u ∈ us, 0 ≤ u ∧ u ≤ 30
set_option maxHeartbeats 4000000 in
theorem sGain_range {us zs : List Int} {A B : Option Addr} {c d : Nat} {w : World} (hu : (1 ≤ us.length ∧ us.length ≤ 4) ∧ PlanIn us) (hn : zs.length = us.length) (hv : IntsV w (.slice A us.length c) us) (hy : IntsV w (.slice B zs.length d) zs) (hz : ¬ SpecIn zs) :
    Calls Tryd.prog 17 #[.slice A us.length c, .slice B zs.length d] w (GivesFN w 2) := by
  have HV := Lib.hid (fun (w' : World) (h : Ext w w') => hv.below h)
  have HY := Lib.hid (fun (w' : World) (h : Ext w w') => hy.below h)
  have HU := Lib.hid hu
  have HZ := Lib.hid hz
  have HN := Lib.hid hn
  have hl4 : us.length ≤ 4 := hu.1.2
  clear hu hv hy hz
  go_enter Tryd.func17, Tryd.ntmps17
  go_upto_region 1 with (fail)
  have hF0 := FBox.new w (.bool false) (.slice none 0 0) (.slice none 0 0) 28
  have x0 : Ext w (w.alloc (.cells #[.bool false, .slice none 0 0, .slice none 0 0] 28)) := ext_alloc (Below.refl _ _) _
  have hs0 : w.heap.size + 1 ≤ (w.alloc (.cells #[.bool false, .slice none 0 0, .slice none 0 0] 28)).heap.size := by simp
  generalize w.alloc (.cells #[.bool false, .slice none 0 0, .slice none 0 0] 28) = W0 at *
  have HF := Lib.hid (fun (w' : World) (h : Ext W0 w') => hF0.below h)
  have HE := Lib.hid x0
  have f0 : Ext W0 W0 := Below.refl _ _
  obtain ⟨r0, r1, r2, g0, g1, g2⟩ := hF0
  clear x0
  go_wp2_with (go_at_call 40; (with_reducible refine (splan_t (HV.out _ HE.out) HU.out.1 HU.out.2).mono ?_); rintro e w1 ⟨rfl, hw1⟩; obtain rfl : W0 = w1 := hw1.symm)
  go_loop [21] (fun iv => ∃ k : Nat, (k ≤ zs.length ∧ Hid (SpecIn (zs.take k))) ∧ iv = .int .i64 k) (fun iv => zs.length - (intOf iv).toNat)
  case atStart => exact ⟨0, ⟨Nat.zero_le _, Lib.hid (by intro u hu; simp at hu)⟩, rfl⟩
  case round =>
    obtain ⟨k, ⟨hk, HTK⟩, rfl⟩ := hrel
    by_cases hkn : k < zs.length
    · obtain ⟨b, o, rfl, hb, hc⟩ := (HY.out _ HE.out).plS hkn
      obtain ⟨x, hx⟩ : ∃ x, x = zs.getD k 0 := ⟨_, rfl⟩
      have HX := Lib.hid hx
      rw [← hx] at hc
      have hi1 : (0 : Int) ≤ (k : Int) := by omega
      have hi2 : (k : Int) < (us.length : Int) := by omega
      have hwk : IntKind.i64.wrap ((k : Int) + 1) = (k : Int) + 1 := wrap_in (by omega)
      clear hx
      by_cases h1 : 0 ≤ x ∧ x ≤ 30
      · have H1 := Lib.hid h1
        clear h1
        go_wp2_with (go_at_call 32; (with_reducible refine (swithin_t (n := x) H1.out.1 H1.out.2).mono ?_); rintro _ s1 ⟨rfl, hs1⟩; obtain rfl : W0 = s1 := hs1.symm)
        go_round
        case rel => exact ⟨k + 1, ⟨by omega, Lib.hid (by
          intro u hu
          rw [List.take_add_one, List.mem_append] at hu
          rcases hu with hu | hu
          · exact HTK.out u hu
          · rw [List.getElem?_eq_getElem hkn] at hu
            simp at hu
            subst hu
            have h1 := H1.out
            rw [HX.out, List.getD_eq_getElem?_getD, List.getElem?_eq_getElem hkn] at h1
            exact h1)⟩, by go_num⟩
        case measure => simp [intOf]; omega
      · have H3 := Lib.hid (show x < 0 ∨ 30 < x from by omega)
        clear h1
        go_wp2_with (go_at_call 32; (with_reducible refine (swithin_f (n := x) H3.out).mono ?_); rintro _ s1 ⟨rfl, hs1⟩; obtain rfl : W0 = s1 := hs1.symm)
        obtain ⟨q0, q1, q2⟩ := set3 r0 r1 r2 (.bool false) (.slice none 0 0) (.slice none 0 0)
        refine bodyPost_ret (v := .tuple #[.agg #[.bool false, .slice none 0 0, .slice none 0 0], .int .i64 2]) (by simp [results, Tryd.results17, go_sem, q0, q1, q2]) rfl ?_
        exact ⟨rfl, ext_put HE.out (Nat.le_refl _) _ _ _⟩
    · exfalso
      have h := HTK.out
      rw [List.take_of_length_le (by omega)] at h
      exact HZ.out h

end Go.Proofs.YtnedgbebajhcpaaDoor
namespace Go.Proofs.YtnedgbebajhcpaaDoor
open Go.RowKit Num

theorem split_arg {us : List Int} {m : Int} {A : Option Addr} {c : Nat} {w : World} (hu : ¬ ((1 ≤ us.length ∧ us.length ≤ 4) ∧ PlanIn us)) (hv : IntsV w (.slice A us.length c) us) :
    Calls Tryd.prog 16 #[.slice A us.length c, .int .i64 m] w (GivesIL w [] 1) := by
  have HV := Lib.hid (fun (w' : World) (h : Ext w w') => hv.below h)
  have HU := Lib.hid hu
  clear hu hv
  go_enter Tryd.func16, Tryd.ntmps16
  go_upto_region 1 with (fail)
  have q0 : (w.alloc (.cells #[.slice A us.length c] 36)).cell? ⟨w.heap.size, 0, none⟩ = some (.slice A us.length c) := by simp [go_sem]
  have x0 : Ext w (w.alloc (.cells #[.slice A us.length c] 36)) := ext_alloc (Below.refl _ _) _
  generalize w.alloc (.cells #[.slice A us.length c] 36) = W0 at *
  go_wp2_with (go_at_call 40; (with_reducible refine (splan_f (HV.out _ x0) HU.out).mono ?_); rintro e w1 ⟨rfl, hw1⟩; obtain rfl : W0 = w1 := hw1.symm)
  go_ret2
  exact ⟨none, 0, rfl, IntsV.nil_ _, x0⟩
theorem sGain_arg {us : List Int} {A B : Option Addr} {c n d : Nat} {w : World} (hu : ¬ ((1 ≤ us.length ∧ us.length ≤ 4) ∧ PlanIn us)) (hv : IntsV w (.slice A us.length c) us) :
    Calls Tryd.prog 17 #[.slice A us.length c, .slice B n d] w (GivesFN w 1) := by
  have HV := Lib.hid (fun (w' : World) (h : Ext w w') => hv.below h)
  have HU := Lib.hid hu
  clear hu hv
  go_enter Tryd.func17, Tryd.ntmps17
  go_upto_region 1 with (fail)
  have hF0 := FBox.new w (.bool false) (.slice none 0 0) (.slice none 0 0) 28
  have x0 : Ext w (w.alloc (.cells #[.bool false, .slice none 0 0, .slice none 0 0] 28)) := ext_alloc (Below.refl _ _) _
  have hs0 : w.heap.size + 1 ≤ (w.alloc (.cells #[.bool false, .slice none 0 0, .slice none 0 0] 28)).heap.size := by simp
  generalize w.alloc (.cells #[.bool false, .slice none 0 0, .slice none 0 0] 28) = W0 at *
  have HF := Lib.hid (fun (w' : World) (h : Ext W0 w') => hF0.below h)
  have HE := Lib.hid x0
  have f0 : Ext W0 W0 := Below.refl _ _
  obtain ⟨r0, r1, r2, g0, g1, g2⟩ := hF0
  clear x0
  go_wp2_with (go_at_call 40; (with_reducible refine (splan_f (HV.out _ HE.out) HU.out).mono ?_); rintro e w1 ⟨rfl, hw1⟩; obtain rfl : W0 = w1 := hw1.symm)
  obtain ⟨q0, q1, q2⟩ := set3 r0 r1 r2 (.bool false) (.slice none 0 0) (.slice none 0 0)
  refine bodyPost_ret (v := .tuple #[.agg #[.bool false, .slice none 0 0, .slice none 0 0], .int .i64 1]) (by simp [results, Tryd.results17, go_sem, q0, q1, q2]) rfl ?_
  exact ⟨rfl, ext_put HE.out (Nat.le_refl _) _ _ _⟩

end Go.Proofs.YtnedgbebajhcpaaDoor
