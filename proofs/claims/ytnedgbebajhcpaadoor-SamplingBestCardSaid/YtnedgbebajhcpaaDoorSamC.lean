/- sampling: plan, gain, Split. -/
import Derived.Test.YtnedgbebajhcpaaDoorSamT
import Derived.Test.YtnedgbebajhcpaaDoorHold
set_option linter.unusedVariables false
set_option linter.unusedSimpArgs false
set_option maxRecDepth 100000
namespace Go.Proofs.YtnedgbebajhcpaaDoor
open Go.RowKit Num

theorem cell_spotS {w : World} {p : Addr} {u : Value} (h : w.cell? p = some u) : p.spot = none := by
  unfold World.cell? at h
  split at h
  · split at h
    · cases h
    · simp_all
  · cases h
theorem IntsV.plS {w : World} {A : Option Addr} {n c k : Nat} {zs : List Int} (h : IntsV w (.slice A n c) zs) (hk : k < zs.length) :
    ∃ b o, A = some ⟨b, o, none⟩ ∧ b < w.heap.size ∧ w.cell? ⟨b, o + k, none⟩ = some (.int .i64 (zs.getD k 0)) := by
  obtain ⟨ad, rfl, hb, hc⟩ := h.at_ hk
  obtain ⟨ad0, e0, _, hc0⟩ := h.at_ (k := 0) (by omega)
  injection e0 with e0
  subst e0
  rw [add_nought] at hc0
  obtain ⟨bb, o, sp⟩ := ad
  have hsp : sp = none := cell_spotS hc0
  subst hsp
  have ha : (⟨bb, o, none⟩ : Addr).add k = ⟨bb, o + k, none⟩ := by
    unfold Addr.add
    by_cases hj : k = 0 <;> simp [hj]
  rw [ha] at hc
  exact ⟨bb, o, rfl, hb, hc⟩
theorem getD_memS {us : List Int} {k : Nat} (hk : k < us.length) : us.getD k 0 ∈ us := by
  rw [List.getD_eq_getElem?_getD, List.getElem?_eq_getElem hk]
  exact List.getElem_mem hk
theorem clip_s {A : Option Addr} {n c : Nat} {w : World} (h1 : n ≤ c) (h2 : c ≤ 9223372036854775807) :
    Calls Tryd.prog 42 #[.slice A n c] w (fun e w' => e = .returned (.slice A n n) ∧ w' = w) := by
  go_enter Tryd.func42, Tryd.ntmps42
  go_wp2
  go_ret
  exact ⟨rfl, rfl⟩

/-- The numbers of dies of a plan are within their limits. -/
def PlanIn (us : List Int) : Prop := ∀ u ∈ us, 1 ≤ u ∧ u ≤ 60
abbrev planF : Value := .func (.func 68) #[] #[]
theorem splan1_f {u : Int} {w : World} (h1 : 1 ≤ u) (h2 : u ≤ 60) : Calls Tryd.prog 68 #[.int .i64 u] w (fun e w' => e = .returned (.bool false) ∧ w' = w) := by
  go_enter Tryd.func68, Tryd.ntmps68
  go_wp2_with (go_at_call 32; (with_reducible refine (swithin_t (n := u) (by omega) (by omega)).mono ?_); rintro e w1 ⟨rfl, rfl⟩)
  go_ret
  exact ⟨rfl, rfl⟩
theorem splan1_t {u : Int} {w : World} (h : u < 1 ∨ 60 < u) : Calls Tryd.prog 68 #[.int .i64 u] w (fun e w' => e = .returned (.bool true) ∧ w' = w) := by
  have H := Lib.hid h
  clear h
  go_enter Tryd.func68, Tryd.ntmps68
  go_wp2_with (go_at_call 32; (with_reducible refine (swithin_f (n := u) H.out).mono ?_); rintro e w1 ⟨rfl, rfl⟩)
  go_ret
  exact ⟨rfl, rfl⟩
theorem sindex_ok {us : List Int} {A : Option Addr} {c : Nat} {w : World} (hv : IntsV w (.slice A us.length c) us) (hu : PlanIn us) (hn : us.length ≤ 1000000) :
    Calls Tryd.prog 88 #[.slice A us.length c, planF] w (fun e w' => e = .returned (.int .i64 (-1)) ∧ w' = w) := by
  have HV := Lib.hid hv
  have HU := Lib.hid hu
  clear hv hu
  go_enter Tryd.func88, Tryd.ntmps88
  go_wp2
  go_loop [8] (fun iv => ∃ k : Nat, k ≤ us.length ∧ iv = .int .i64 k) (fun iv => us.length - (intOf iv).toNat)
  case atStart => exact ⟨0, Nat.zero_le _, rfl⟩
  case round =>
    obtain ⟨k, hk, rfl⟩ := hrel
    by_cases hkn : k < us.length
    · obtain ⟨b, o, rfl, hb, hc⟩ := HV.out.plS hkn
      obtain ⟨x, hx⟩ : ∃ x, x = us.getD k 0 := ⟨_, rfl⟩
      obtain ⟨h1, h2⟩ := HU.out _ (getD_memS hkn)
      rw [← hx] at hc h1 h2
      have hi1 : (0 : Int) ≤ (k : Int) := by omega
      have hi2 : (k : Int) < (us.length : Int) := by omega
      clear hx
      go_wp2_with (go_at_call 68; (with_reducible refine (splan1_f h1 h2).mono ?_); rintro _ s1 ⟨rfl, rfl⟩)
      go_round
      case rel => exact ⟨k + 1, by omega, by go_num⟩
      case measure => simp [intOf]; omega
    · go_wp2
      go_ret
      exact ⟨rfl, rfl⟩
def SomeIdxS (n : Nat) (w : World) (e : Ending) (w' : World) : Prop := ∃ k : Nat, k < n ∧ e = .returned (.int .i64 k) ∧ w' = w
theorem sindex_no {us : List Int} {A : Option Addr} {c : Nat} {w : World} (hv : IntsV w (.slice A us.length c) us) (hu : ¬ PlanIn us) (hn : us.length ≤ 1000000) :
    Calls Tryd.prog 88 #[.slice A us.length c, planF] w (SomeIdxS us.length w) := by
  have HV := Lib.hid hv
  have HU := Lib.hid hu
  clear hv hu
  go_enter Tryd.func88, Tryd.ntmps88
  go_wp2
  go_loop [8] (fun iv => ∃ k : Nat, (k ≤ us.length ∧ PlanIn (us.take k)) ∧ iv = .int .i64 k) (fun iv => us.length - (intOf iv).toNat)
  case atStart => exact ⟨0, ⟨Nat.zero_le _, by intro u hu; simp at hu⟩, rfl⟩
  case round =>
    obtain ⟨k, ⟨hk, hu⟩, rfl⟩ := hrel
    by_cases hkn : k < us.length
    · obtain ⟨b, o, rfl, hb, hc⟩ := HV.out.plS hkn
      have HT := Lib.hid hu
      obtain ⟨x, hx⟩ : ∃ x, x = us.getD k 0 := ⟨_, rfl⟩
      have HX := Lib.hid hx
      rw [← hx] at hc
      have hi1 : (0 : Int) ≤ (k : Int) := by omega
      have hi2 : (k : Int) < (us.length : Int) := by omega
      clear hx hu
      by_cases h1 : 1 ≤ x ∧ x ≤ 60
      · obtain ⟨h1, h2⟩ := h1
        go_wp2_with (go_at_call 68; (with_reducible refine (splan1_f h1 h2).mono ?_); rintro _ s1 ⟨rfl, rfl⟩)
        go_round
        case rel => exact ⟨k + 1, ⟨by omega, by
          intro u hu
          rw [List.take_add_one, List.mem_append] at hu
          rcases hu with hu | hu
          · exact HT.out u hu
          · rw [List.getElem?_eq_getElem hkn] at hu
            simp at hu
            subst hu
            rw [HX.out, List.getD_eq_getElem?_getD, List.getElem?_eq_getElem hkn] at h1 h2
            exact ⟨h1, h2⟩⟩, by go_num⟩
        case measure => simp [intOf]; omega
      · have h3 : x < 1 ∨ 60 < x := by omega
        clear h1
        have H3 := Lib.hid h3
        clear h3
        go_wp2_with (go_at_call 68; (with_reducible refine (splan1_t H3.out).mono ?_); rintro _ s1 ⟨rfl, rfl⟩)
        go_ret
        exact ⟨k, hkn, rfl, rfl⟩
    · exfalso
      rw [List.take_of_length_le (by omega)] at hu
      exact HU.out hu
theorem scontains_ok {us : List Int} {A : Option Addr} {c : Nat} {w : World} (hv : IntsV w (.slice A us.length c) us) (hu : PlanIn us) (hn : us.length ≤ 1000000) :
    Calls Tryd.prog 67 #[.slice A us.length c, planF] w (fun e w' => e = .returned (.bool false) ∧ w' = w) := by
  have H := Lib.hid (sindex_ok hv hu hn)
  clear hv hu
  go_enter Tryd.func67, Tryd.ntmps67
  go_wp2_with (go_at_call 88; (with_reducible refine H.out.mono ?_); rintro _ s1 ⟨rfl, rfl⟩)
  go_ret
  exact ⟨rfl, rfl⟩
theorem scontains_no {us : List Int} {A : Option Addr} {c : Nat} {w : World} (hv : IntsV w (.slice A us.length c) us) (hu : ¬ PlanIn us) (hn : us.length ≤ 1000000) :
    Calls Tryd.prog 67 #[.slice A us.length c, planF] w (fun e w' => e = .returned (.bool true) ∧ w' = w) := by
  have H := Lib.hid (sindex_no hv hu hn)
  clear hv hu
  go_enter Tryd.func67, Tryd.ntmps67
  go_wp2_with (go_at_call 88; (with_reducible refine H.out.mono ?_); rintro _ s1 ⟨k, hk, rfl, rfl⟩)
  go_ret
  exact ⟨by simp, rfl⟩
theorem splan_t {us : List Int} {A : Option Addr} {c : Nat} {w : World} (hv : IntsV w (.slice A us.length c) us) (hl : 1 ≤ us.length ∧ us.length ≤ 4) (hu : PlanIn us) :
    Calls Tryd.prog 40 #[.slice A us.length c] w (fun e w' => e = .returned (.bool true) ∧ w' = w) := by
  have HC := Lib.hid (scontains_ok hv hu (by omega))
  clear hv hu
  go_enter Tryd.func40, Tryd.ntmps40
  go_wp2_with (first
    | (go_at_call 32; (with_reducible refine (swithin_t (n := (us.length : Int)) (by omega) (by omega)).mono ?_); rintro e w1 ⟨rfl, rfl⟩)
    | (go_at_call 67; (with_reducible refine HC.out.mono ?_); rintro e w1 ⟨rfl, rfl⟩))
  go_ret
  exact ⟨rfl, rfl⟩
theorem splan_f {us : List Int} {A : Option Addr} {c : Nat} {w : World} (hv : IntsV w (.slice A us.length c) us) (hu : ¬ ((1 ≤ us.length ∧ us.length ≤ 4) ∧ PlanIn us)) :
    Calls Tryd.prog 40 #[.slice A us.length c] w (fun e w' => e = .returned (.bool false) ∧ w' = w) := by
  by_cases hl : 1 ≤ us.length ∧ us.length ≤ 4
  · have HC := Lib.hid (scontains_no hv (fun h => hu ⟨hl, h⟩) (by omega))
    clear hv hu
    go_enter Tryd.func40, Tryd.ntmps40
    go_wp2_with (first
      | (go_at_call 32; (with_reducible refine (swithin_t (n := (us.length : Int)) (by omega) (by omega)).mono ?_); rintro e w1 ⟨rfl, rfl⟩)
      | (go_at_call 67; (with_reducible refine HC.out.mono ?_); rintro e w1 ⟨rfl, rfl⟩))
    go_ret
    exact ⟨rfl, rfl⟩
  · have HL := Lib.hid (show (us.length : Int) < 1 ∨ 4 < (us.length : Int) from by omega)
    clear hv hu hl
    go_enter Tryd.func40, Tryd.ntmps40
    go_wp2_with (go_at_call 32; (with_reducible refine (swithin_f (n := (us.length : Int)) HL.out).mono ?_); rintro e w1 ⟨rfl, rfl⟩)
    go_ret
    exact ⟨rfl, rfl⟩

set_option maxHeartbeats 8000000 in
theorem sgain_ok {D l : List Nat} {A B : Option Addr} {c d : Nat} {w : World} (hD : PlanN D) (hlen : l.length = D.length) (hl : ∀ x ∈ l, x ≤ 30)
    (hv : IntsV w (.slice A (natsS D).length c) (natsS D)) (hy : IntsV w (.slice B (natsS l).length d) (natsS l)) (ht : Tab10 w) :
    Calls Tryd.prog 43 #[.slice A (natsS D).length c, .slice B (natsS l).length d] w (GivesF w (gl D l)) := by
  have HT := Lib.hid (fun (w' : World) (h : Ext w w') => ht.ext h)
  have HV := Lib.hid (fun (w' : World) (h : Ext w w') => hv.below h)
  have HY := Lib.hid (fun (w' : World) (h : Ext w w') => hy.below h)
  have HFB := Lib.hid (fun (m : Nat) (hm : m ≤ D.length) => gain_fb hD hm hlen hl)
  have HMB := Lib.hid (fun (i : Nat) (hi : i < D.length) => (⟨hl _ (at0_mem (by omega)), hD.2 _ (at0_mem hi)⟩ : at0 l i ≤ 30 ∧ 1 ≤ at0 D i ∧ at0 D i ≤ 60))
  have HN1 := Lib.hid (natsS_length D)
  have HN2 := Lib.hid (natsS_length l)
  have hd4 := hD.1
  have hnl : (natsS l).length = (natsS D).length := by rw [HN1.out, HN2.out, hlen]
  have HNL := Lib.hid hnl
  clear hv hy ht hD hl hnl
  go_enter Tryd.func43, Tryd.ntmps43
  go_upto_region 1 with (fail)
  have hF0 := FBox.new w (.bool false) (.slice none 0 0) (.slice none 0 0) 28
  have x0 : Ext w (w.alloc (.cells #[.bool false, .slice none 0 0, .slice none 0 0] 28)) := ext_alloc (Below.refl _ _) _
  have hs0 : w.heap.size + 1 ≤ (w.alloc (.cells #[.bool false, .slice none 0 0, .slice none 0 0] 28)).heap.size := by simp
  generalize w.alloc (.cells #[.bool false, .slice none 0 0, .slice none 0 0] 28) = W0 at *
  have HF := Lib.hid (fun (w' : World) (h : Ext W0 w') => hF0.below h)
  have HE := Lib.hid x0
  have f0 : Ext W0 W0 := Below.refl _ _
  obtain ⟨r0, r1, r2, g0, g1, g2⟩ := hF0
  clear x0
  go_wp2_with fail
  refine (fof_n (n := 0) (d := 1) (by omega) (by omega)).mono ?_
  rintro e w6 ⟨b6, A6, k6, c6, A6', k6', c6', rfl, h6, y6, n6, n6'⟩
  rw [zero_first] at h6
  have h6 : FracV w6 b6 (.slice A6 k6 c6) (.slice A6' k6' c6') (gainQ (at0 D) (at0 l) 0) := h6
  have hlo := y6.size
  go_upto_region 2 with (fail)
  have hG6 := FBox.new w6 (.bool b6) (.slice A6 k6 c6) (.slice A6' k6' c6') 28
  have Y6 : Ext W0 (w6.alloc (.cells #[.bool b6, .slice A6 k6 c6, .slice A6' k6' c6'] 28)) := ext_alloc y6 _
  have h6 := h6.below (ext_alloc (Below.refl _ _) (.cells #[.bool b6, .slice A6 k6 c6, .slice A6' k6' c6'] 28))
  have hsz6 : w6.heap.size < (w6.alloc (.cells #[.bool b6, .slice A6 k6 c6, .slice A6' k6' c6'] 28)).heap.size := by simp
  generalize w6.alloc (.cells #[.bool b6, .slice A6 k6 c6, .slice A6' k6' c6'] 28) = W6 at *
  generalize w6.heap.size = B6 at *
  go_wp2
  go_loopw [13] (fun iv wr => ∃ i : Nat, i ≤ D.length ∧ iv = .int .i64 i ∧ FIs W0 wr B6 (gainQ (at0 D) (at0 l) i)) (fun iv _ => D.length - (intOf iv).toNat)
  case atStart => exact ⟨0, Nat.zero_le _, rfl, b6, A6, k6, c6, A6', k6', c6', hG6, h6, Y6, n6, n6'⟩
  case round =>
    clear hG6 h6 Y6 n6 n6' hsz6 r0 r1 r2 g0 g1 g2
    obtain ⟨i, hi, rfl, cc, MA, mk, ml, MA', mk', ml', hM, vM, xM, nM, nM'⟩ := hrel
    have HM2 := Lib.hid (fun (w' : World) (h : Ext wr w') => hM.below h)
    have hMl := hM.lt
    have hX := xM
    by_cases hil : i < D.length
    · have HMA := Lib.hid (fun (w' : World) (h : Ext wr w') => FracV.any (vM.below h) (HFB.out i hi) (by omega))
      have HF1 := Lib.hid (HFB.out i hi)
      have hmb := HMB.out i hil
      obtain ⟨b1, o1, rfl, hb1, hc1⟩ := (HV.out _ (HE.out.trans xM)).plS (k := i) (by rw [HN1.out]; exact hil)
      obtain ⟨b2, o2, rfl, hb2, hc2⟩ := (HY.out _ (HE.out.trans xM)).plS (k := i) (by rw [HNL.out, HN1.out]; exact hil)
      rw [getD_natsS hil] at hc1
      rw [getD_natsS (by rw [hlen]; exact hil)] at hc2
      have HST := Lib.hid (show gainQ (at0 D) (at0 l) (i + 1) = gainQ (at0 D) (at0 l) i + meanQ (at0 l i) (at0 D i) from rfl)
      obtain ⟨S1, hS1⟩ : ∃ S1, S1 = gainQ (at0 D) (at0 l) i := ⟨_, rfl⟩
      obtain ⟨S2, hS2⟩ : ∃ S2, S2 = gainQ (at0 D) (at0 l) (i + 1) := ⟨_, rfl⟩
      obtain ⟨x, hx⟩ : ∃ x, x = at0 l i := ⟨_, rfl⟩
      obtain ⟨y, hy⟩ : ∃ y, y = at0 D i := ⟨_, rfl⟩
      rw [← hS1, ← hS2, ← hx, ← hy] at HST
      rw [← hS1] at HMA HF1
      rw [← hx] at hc2
      rw [← hy] at hc1
      rw [← hx, ← hy] at hmb
      have HS2 := Lib.hid hS2
      have HFM := Lib.hid (meanQ_fb (n := x) (D := y) hmb.1 hmb.2.1 hmb.2.2)
      have hi1 : (0 : Int) ≤ (i : Int) := by omega
      have hi2 : (i : Int) < ((natsS D).length : Int) := by rw [HN1.out]; omega
      have hi3 : (i : Int) < ((natsS l).length : Int) := by rw [HNL.out]; exact hi2
      have hw1 : IntKind.i64.wrap ((i : Int) + 1) = (i : Int) + 1 := wrap_in (by omega)
      clear hS1 hS2 hx hy vM hM
      go_wp2_with fail
      refine (omean_ok (n := x) (D := y) hmb.1 hmb.2.1 hmb.2.2 (HT.out _ (HE.out.trans xM))).mono ?_
      rintro e w1 ⟨b1, A1, k1, c1, A1', k1', c1', rfl, h1, y1, n1, n1'⟩
      clear n1 n1'
      go_upto_region 6 with (fail)
      have hG1 := FBox.new w1 (.bool b1) (.slice A1 k1 c1) (.slice A1' k1' c1') 28
      have Y1 : Ext wr (w1.alloc (.cells #[.bool b1, .slice A1 k1 c1, .slice A1' k1' c1'] 28)) := ext_alloc y1 _
      have h1 := h1.below (ext_alloc (Below.refl _ _) (.cells #[.bool b1, .slice A1 k1 c1, .slice A1' k1' c1'] 28))
      have hsz1 : w1.heap.size < (w1.alloc (.cells #[.bool b1, .slice A1 k1 c1, .slice A1' k1' c1'] 28)).heap.size := by simp
      generalize w1.alloc (.cells #[.bool b1, .slice A1 k1 c1, .slice A1' k1' c1'] 28) = W1 at *
      generalize w1.heap.size = B1 at *
      have HG1 := Lib.hid (fun (w' : World) (h : Ext W1 w') => hG1.below h)
      have HP1 := Lib.hid (fun (w' : World) (h : Ext W1 w') => FracV.any (h1.below h) (HFM.out) (by omega))
      have HB1 := Lib.hid (fun (w' : World) (h : Ext W1 w') => h1.below h)
      clear hG1 h1 y1 hsz1
      obtain ⟨m0, m1, m2, gm0, gm1, gm2⟩ := HM2.out _ Y1
      obtain ⟨p0, p1, p2, _, _, _⟩ := HG1.out _ (Below.refl _ _)
      have hsz := Y1.size
      go_wp2_with (go_at_call 24; (with_reducible refine (add_f (HMA.out _ Y1) (HP1.out _ (Below.refl _ _)) HF1.out HFM.out (by omega)).mono ?_); rintro _ s3 ⟨b3, A3, k3, c3, B3, l3, d3, rfl, h3, z3, n3, m3⟩; have f3 := Y1.trans z3; obtain ⟨m0, m1, m2, gm0, gm1, gm2⟩ := HM2.out _ f3)
      rw [← HST.out] at h3
      go_roundw
      all_goals first
        | exact ⟨i + 1, by omega, by go_num, b3, A3, k3, c3, B3, l3, d3, (HM2.out _ f3).put _ _ _, by rw [← HS2.out]; exact FracV.put h3 n3 m3 (by omega) _ _ _, ext_put (hX.trans f3) hlo _ _ _, n3.mono (by have := hX.size; omega), m3.mono (by have := hX.size; omega)⟩
        | (simp [intOf]; omega)
    · obtain rfl : i = D.length := by omega
      have hi2 : ¬ ((D.length : Int) < ((natsS D).length : Int)) := by rw [HN1.out]; omega
      obtain ⟨m0, m1, m2, gm0, gm1, gm2⟩ := hM
      obtain ⟨r0, r1, r2, g0, g1, g2⟩ := HF.out _ xM
      go_wp2
      obtain ⟨q0, q1, q2⟩ := set3 r0 r1 r2 (.bool cc) (.slice MA mk ml) (.slice MA' mk' ml')
      refine bodyPost_ret (v := .agg #[.bool cc, .slice MA mk ml, .slice MA' mk' ml']) (by simp [results, Tryd.results43, go_sem, q0, q1, q2]) rfl ?_
      exact GivesF.box (B := w.heap.size) (HE.out.trans xM) vM (nM.mono (by omega)) (nM'.mono (by omega)) (Nat.le_refl _)

end Go.Proofs.YtnedgbebajhcpaaDoor
