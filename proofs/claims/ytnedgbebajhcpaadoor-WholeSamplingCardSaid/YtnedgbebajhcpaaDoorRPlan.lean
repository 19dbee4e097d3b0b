/- The reference's Plan. -/
import Derived.Test.YtnedgbebajhcpaaDoorSamN
import Derived.Test.YtnedgbebajhcpaaDoorRIn
set_option linter.unusedVariables false
set_option linter.unusedSimpArgs false
set_option maxRecDepth 100000
namespace Go.Proofs.YtnedgbebajhcpaaDoor
open Go.RowKit Num

theorem rplan_t {us : List Int} {A : Option Addr} {c : Nat} {w : World} (hv : IntsV w (.slice A us.length c) us) (hu : PlanIn us) (hl1 : 1 ≤ us.length) (hl2 : us.length ≤ 4) :
    Calls Tryd.prog 25 #[.slice A us.length c] w (fun e w' => e = .returned (.bool true) ∧ w' = w) := by
  have HV := Lib.hid hv
  have HU := Lib.hid hu
  clear hv hu
  go_enter Tryd.func25, Tryd.ntmps25
  go_wp2
  go_loop [3] (fun iv => ∃ k : Nat, k ≤ us.length ∧ iv = .int .i64 k) (fun iv => us.length - (intOf iv).toNat)
  case atStart => exact ⟨0, Nat.zero_le _, rfl⟩
  case round =>
    obtain ⟨k, hk, rfl⟩ := hrel
    by_cases hkn : k < us.length
    · obtain ⟨b, o, rfl, hb, hc⟩ := HV.out.plS hkn
      obtain ⟨x, hx⟩ : ∃ x, x = us.getD k 0 := ⟨_, rfl⟩
      obtain ⟨h1, h2⟩ := HU.out _ (getD_memS hkn)
      rw [← hx] at hc h1 h2
      have hi1 : (0 : Int) ≤ (k : Int) := by omega
      have hi2 : (k : Int) < (us.length : Int) := by omega
      clear hx
      go_wp2_with (go_at_call 26; (with_reducible refine (rin_t h1 h2).mono ?_); rintro _ s1 ⟨rfl, rfl⟩)
      go_round
      case rel => exact ⟨k + 1, by omega, by go_num⟩
      case measure => simp [intOf]; omega
    · go_wp2_with (go_at_call 26; (with_reducible refine (rin_t (by omega) (by omega)).mono ?_); rintro _ s1 ⟨rfl, rfl⟩)
      go_ret
      exact ⟨rfl, rfl⟩
theorem rplan_f {us : List Int} {A : Option Addr} {c : Nat} {w : World} (hv : IntsV w (.slice A us.length c) us) (hu : ¬ (PlanIn us ∧ 1 ≤ us.length ∧ us.length ≤ 4)) :
    Calls Tryd.prog 25 #[.slice A us.length c] w (fun e w' => e = .returned (.bool false) ∧ w' = w) := by
  have hcap : (us.length : Int) ≤ 9223372036854775807 := by obtain ⟨_, _, e, h1, h2, _⟩ := hv; injection e with e1 e2 e3; omega
  have HV := Lib.hid hv
  have HU := Lib.hid hu
  clear hv hu
  go_enter Tryd.func25, Tryd.ntmps25
  go_wp2
  go_loop [3] (fun iv => ∃ k : Nat, (k ≤ us.length ∧ PlanIn (us.take k)) ∧ iv = .int .i64 k) (fun iv => us.length - (intOf iv).toNat)
  case atStart => exact ⟨0, ⟨Nat.zero_le _, by intro u hu; simp at hu⟩, rfl⟩
  case round =>
    obtain ⟨k, ⟨hk, hu⟩, rfl⟩ := hrel
    by_cases hkn : k < us.length
    · obtain ⟨b, o, rfl, hb, hc⟩ := HV.out.plS hkn
      have HT := Lib.hid hu
      obtain ⟨x, hx⟩ : ∃ x, x = us.getD k 0 := ⟨_, rfl⟩
      have HX := Lib.hid hx
      rw [← hx] at hc
      have hi1 : (0 : Int) ≤ (k : Int) := by omega
      have hi2 : (k : Int) < (us.length : Int) := by omega
      clear hx hu
      by_cases h1 : 1 ≤ x ∧ x ≤ 60
      · obtain ⟨h1, h2⟩ := h1
        go_wp2_with (go_at_call 26; (with_reducible refine (rin_t h1 h2).mono ?_); rintro _ s1 ⟨rfl, rfl⟩)
        go_round
        case rel => exact ⟨k + 1, ⟨by omega, by
          intro u hu
          rw [List.take_add_one, List.mem_append] at hu
          rcases hu with hu | hu
          · exact HT.out u hu
          · rw [List.getElem?_eq_getElem hkn] at hu
            simp at hu
            subst hu
            rw [HX.out, List.getD_eq_getElem?_getD, List.getElem?_eq_getElem hkn] at h1 h2
            exact ⟨h1, h2⟩⟩, by go_num⟩
        case measure => simp [intOf]; omega
      · have h3 : x < 1 ∨ 60 < x := by omega
        clear h1
        have H3 := Lib.hid h3
        clear h3
        go_wp2_with (go_at_call 26; (with_reducible refine (rin_f H3.out).mono ?_); rintro _ s1 ⟨rfl, rfl⟩)
        go_ret
        exact ⟨rfl, rfl⟩
    · rw [List.take_of_length_le (by omega)] at hu
      have hl : us.length < 1 ∨ 4 < us.length := by
        have := HU.out
        by_cases h1 : 1 ≤ us.length ∧ us.length ≤ 4
        · exact absurd ⟨hu, h1⟩ this
        · omega
      have HL := Lib.hid (show (us.length : Int) < 1 ∨ 4 < (us.length : Int) from by omega)
      clear hu hl
      go_wp2_with (go_at_call 26; (with_reducible refine (rin_f HL.out).mono ?_); rintro _ s1 ⟨rfl, rfl⟩)
      go_ret
      exact ⟨rfl, rfl⟩

theorem getD_mem0 {us : List Int} {k j : Nat} (hj : j < k) (hk : k ≤ us.length) : us.getD j 0 ∈ us.take k := by
  rw [List.getD_eq_getElem?_getD, List.getElem?_eq_getElem (by omega)]
  exact List.mem_take_iff_getElem.2 ⟨j, by omega, rfl⟩
def toN (zs : List Int) : List Nat := zs.map Int.toNat
theorem at0_toN {zs : List Int} (k : Nat) : at0 (toN zs) k = (zs.getD k 0).toNat := by
  unfold at0 toN
  rw [List.getD_eq_getElem?_getD, List.getD_eq_getElem?_getD, List.getElem?_map]
  cases zs[k]? <;> rfl
theorem nats_toN {zs : List Int} (h : ∀ z ∈ zs, 0 ≤ z) : natsS (toN zs) = zs := by
  unfold natsS toN
  rw [List.map_map]
  conv => rhs; rw [← List.map_id zs]
  exact List.map_congr_left fun z hz => by show ((z.toNat : Nat) : Int) = z; have := h z hz; omega
theorem toN_length (zs : List Int) : (toN zs).length = zs.length := by simp [toN]
theorem plan_toN {us : List Int} (h : PlanIn us ∧ 1 ≤ us.length ∧ us.length ≤ 4) : PlanN (toN us) ∧ natsS (toN us) = us := by
  refine ⟨⟨by rw [toN_length]; exact h.2, fun d hd => ?_⟩, nats_toN fun z hz => by have := h.1 z hz; omega⟩
  obtain ⟨z, hz, rfl⟩ := List.mem_map.1 hd
  have := h.1 z hz
  omega
end Go.Proofs.YtnedgbebajhcpaaDoor
