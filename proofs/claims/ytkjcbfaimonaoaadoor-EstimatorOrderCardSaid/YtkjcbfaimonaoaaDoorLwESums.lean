/- The walk of EstimatorSums. -/
import Derived.Test.YtkjcbfaimonaoaaDoorEstP
import Derived.Test.YtkjcbfaimonaoaaDoorEstS
set_option linter.unusedVariables false
set_option linter.unusedSimpArgs false
set_option maxRecDepth 100000
namespace Go.Proofs.YtkjcbfaimonaoaaDoor
open Go.RowKit Num

theorem cmp_e {b b' : Bool} {s t s' t' : Value} {p q : Rat} {L M : Nat} {z : Int} {w : World} (hx : AnyF w b s t p L) (hy : AnyF w b' s' t' q M) (hL : L + M ≤ 549755813887) (hz : cmpQ p q = z) :
    Calls Tryd.prog 25 #[.agg #[.bool b, s, t], .agg #[.bool b', s', t']] w (fun e w' => e = .returned (.int .i64 z) ∧ Ext w w') := by
  subst hz
  exact cmp_f hx hy hL
theorem sums_val {s l : Int} (hl : l ≠ 0) : cmpQ ((s : Rat) / (l : Rat) * ((l : Rat) / ((1 : Int) : Rat))) ((s : Rat) / ((1 : Int) : Rat)) = 0 := by
  have hl' : (l : Rat) ≠ 0 := by exact_mod_cast hl
  rw [cmpQ_zero]
  simp only [Rat.intCast_one, Rat.div_def]
  grind

set_option maxHeartbeats 8000000 in
theorem law_EstimatorSums {v : Value} {zs : List Int} {w : World} (hv : KInts .i64 w v zs) (ht : Tab10 w) :
    Calls Tryd.prog 6 #[v] w (fun e w' => e = .returned (.bool true) ∧ Ext w w') := by
  have hI := hv.ints
  obtain ⟨A, cc, rfl, _, _, _⟩ := id hI
  by_cases hl : zs.length ≤ 80
  · by_cases hs : Samp zs
    · have hL9 := hs.1
      have hB9 : (1 : Int) ≤ zs.sum ∧ zs.sum ≤ 64 := by
        have := sumUp_le (Nat.le_refl _) hs.2.1
        rw [sumUp_all] at this
        exact ⟨by omega, hs.2.2⟩
      obtain ⟨m, hm, hm64, hfr, hlast, hw1, hw2⟩ := hs.sums
      have HM := Lib.hid hm
      have HFR := Lib.hid hfr
      have HW1 := Lib.hid hw1
      have HW2 := Lib.hid hw2
      have HLEN := Lib.hid (show (freqs zs).length = m + 1 from by rw [freqs_length, hm])
      have HIN := Lib.hid hs.2.1
      have HS := Lib.hid hs
      have HN := Lib.hid (show (-9223372036854775808 ≤ (zs.length : Int) ∧ (zs.length : Int) ≤ 9223372036854775807) ∧ (-9223372036854775808 ≤ (1 : Int) ∧ (1 : Int) ≤ 9223372036854775807) from by omega)
      have HT := Lib.hid (show (-9223372036854775808 ≤ zs.sum ∧ zs.sum ≤ 9223372036854775807) from by omega)
      have HF1 := Lib.hid (fb_i64 HN.out.1 HN.out.2)
      have HF2 := Lib.hid (fb_i64 HT.out HN.out.2)
      have HF3 := Lib.hid (fb_i64 HT.out HN.out.1)
      have HVAL := Lib.hid (sums_val (s := zs.sum) (l := (zs.length : Int)) (by omega))
      have HI := Lib.hid (fun (w' : World) (h : Ext w w') => hI.below h)
      clear hv hI hs hm hfr hw1 hw2
      go_enter Tryd.func6, Tryd.ntmps6
      go_wp2_with (first
        | (go_at_call 12; (with_reducible refine (eawake ht).mono ?_); rintro e w0 ⟨rfl, x0⟩)
        | (go_at_call 13; (with_reducible refine (few_t hl).mono ?_); rintro e w0 ⟨rfl, rfl⟩)
        | (go_at_call 14; (with_reducible refine (efreq_ok (HI.out _ x0) HS.out).mono ?_); rintro e w2 ⟨A2, c2, rfl, h2, x2, n2⟩))
      rw [HLEN.out] at h2 ⊢
      obtain ⟨fb, fo, rfl, hcs⟩ := h2.plain (by rw [HLEN.out]; omega)
      rw [HLEN.out] at hcs
      have HI2 := Lib.hid hcs
      have y2 := x0.trans x2
      clear h2 hcs x0 x2 n2
      go_loopw [5, 6, 8] (fun dv nv kv wr => ∃ k : Nat, k ≤ m + 1 ∧ kv = .int .i64 k ∧ dv = .int .i64 (wsum (fun _ => 1) zs k) ∧ nv = .int .i64 (wsum (fun j => (j : Int) + 1) zs k) ∧ wr = w2) (fun _ _ kv _ => m + 1 - (intOf kv).toNat)
      case atStart => exact ⟨0, Nat.zero_le _, rfl, rfl, rfl, rfl⟩
      case round =>
        obtain ⟨k, hk, rfl, rfl, rfl, hwr⟩ := hrel
        obtain rfl : w2 = wr := hwr.symm
        clear hwr
        by_cases hkm : k < m + 1
        · have hc := HI2.out k hkm
          have hb1 := wsum_le (g := fun _ => 1) (zs := zs) (G := 1) hL9.2 (by omega) (m := k) (fun _ _ => by omega)
          have hb2 := wsum_le (g := fun j => (j : Int) + 1) (zs := zs) (G := 64) hL9.2 (by omega) (m := k) (fun j hj => by omega)
          have hv0 : (freqs zs).getD k 0 = ((zs.count ((k : Int) + 1) : Nat) : Int) := HFR.out k hkm
          have hv1 : zs.count ((k : Int) + 1) ≤ 64 := Nat.le_trans List.count_le_length hL9.2
          have HS1 := Lib.hid (show wsum (fun _ => 1) zs (k + 1) = wsum (fun _ => 1) zs k + (freqs zs).getD k 0 from by rw [hv0]; simp [wsum])
          have HS2 := Lib.hid (show wsum (fun j => (j : Int) + 1) zs (k + 1) = wsum (fun j => (j : Int) + 1) zs k + ((k : Int) + 1) * (freqs zs).getD k 0 from by rw [hv0]; simp [wsum])
          rw [← hv0] at hv0
          have hvb : 0 ≤ (freqs zs).getD k 0 ∧ (freqs zs).getD k 0 ≤ 64 := by have := HFR.out k hkm; omega
          generalize (freqs zs).getD k 0 = z at *
          generalize wsum (fun _ => 1) zs k = q1 at *
          generalize wsum (fun j => (j : Int) + 1) zs k = q2 at *
          have hp0 : 0 ≤ ((k : Int) + 1) * z := Int.mul_nonneg (by omega) (by omega)
          have hp1 : ((k : Int) + 1) * z ≤ 64 * 64 := Int.mul_le_mul (by omega) (by omega) (by omega) (by omega)
          have hq1 : q1 ≤ 64 * 64 := by omega
          have hq2 : q2 ≤ 64 * (64 * 64) := by omega
          have hw0 : IntKind.i64.wrap ((k : Int) + 1) = (k : Int) + 1 := wrap_in (by omega)
          have hw1 : IntKind.i64.wrap (q1 + z) = q1 + z := wrap_in (by omega)
          have hw2 : IntKind.i64.wrap (((k : Int) + 1) * z) = ((k : Int) + 1) * z := wrap_in (by omega)
          have hw3 : IntKind.i64.wrap (q2 + ((k : Int) + 1) * z) = q2 + ((k : Int) + 1) * z := wrap_in (by omega)
          clear hb1 hb2 hv0 hv1
          go_wp2
          go_roundw
          case rel => exact ⟨k + 1, by omega, by go_num, by rw [HS1.out], by rw [HS2.out], trivial⟩
          case measure => simp [intOf]; omega
        · have : k = m + 1 := by omega
          subst this
          rw [HW1.out, HW2.out]
          go_wp2
          go_loopw [7, 9] (fun sv iv wr => ∃ i : Nat, i ≤ zs.length ∧ iv = .int .i64 i ∧ sv = .int .i64 (sumUp zs i) ∧ wr = w2) (fun _ iv _ => zs.length - (intOf iv).toNat)
          case atStart => exact ⟨0, Nat.zero_le _, rfl, by rw [sumUp_zero], rfl⟩
          case round =>
            obtain ⟨i, hi, rfl, rfl, hwr⟩ := hrel
            obtain rfl : w2 = wr := hwr.symm
            clear hwr
            by_cases hil : i < zs.length
            · obtain ⟨ad, rfl, hb, hc⟩ := (HI.out _ y2).at_ hil
              have HSU := Lib.hid (sumUp_succ hil)
              have hle := sumUp_le hi fun j hj => HIN.out j (by omega)
              have hz := HIN.out i hil
              unfold InS at hz
              generalize zs.getD i 0 = z at *
              generalize sumUp zs i = q at *
              have hw1 : IntKind.i64.wrap (q + z) = q + z := wrap_in (by omega)
              go_wp2
              go_roundw
              case rel => exact ⟨i + 1, by omega, by go_num, by rw [HSU.out], trivial⟩
              case measure => simp [intOf]; omega
            · have : i = zs.length := by omega
              subst this
              rw [sumUp_all]
              go_wp2_with fail
              refine (eindex_ok (HI.out _ y2) HS.out).mono ?_
              rintro e w3 ⟨b3, A3, k3, c3, A3', k3', c3', rfl, h3, y3, n3, n3'⟩
              clear n3 n3'
              go_upto_region 17 with (fail)
              have hG3 := FBox.new w3 (.bool b3) (.slice A3 k3 c3) (.slice A3' k3' c3') 32
              have Y3 : Ext w2 (w3.alloc (.cells #[.bool b3, .slice A3 k3 c3, .slice A3' k3' c3'] 32)) := ext_alloc y3 _
              have h3 := h3.below (ext_alloc (Below.refl _ _) (.cells #[.bool b3, .slice A3 k3 c3, .slice A3' k3' c3'] 32))
              have hsz3 : w3.heap.size < (w3.alloc (.cells #[.bool b3, .slice A3 k3 c3, .slice A3' k3' c3'] 32)).heap.size := by simp
              generalize w3.alloc (.cells #[.bool b3, .slice A3 k3 c3, .slice A3' k3' c3'] 32) = W3 at *
              generalize w3.heap.size = B3 at *
              have hcl := (HI2.out m (by omega))
              generalize (freqs zs).getD m 0 = lastv at *
              have HX := Lib.hid (fun (w' : World) (h : Ext W3 w') => FracV.any (L := 3) (h3.below h) HF3.out (by omega))
              have HS3 := Lib.hid (fun (w' : World) (h : Ext W3 w') => (⟨((Y3.trans h).cell (p := ⟨fb, fo + m, none⟩) (World.block_lt_of_cell? _ _ hcl)).trans hcl, (hG3.below h).1, (hG3.below h).2.1, (hG3.below h).2.2.1⟩ : w'.cell? ⟨fb, fo + m, none⟩ = some (.int .i64 lastv) ∧ w'.cell? ⟨B3, 0, none⟩ = some (.bool b3) ∧ w'.cell? ⟨B3, 1, none⟩ = some (.slice A3 k3 c3) ∧ w'.cell? ⟨B3, 2, none⟩ = some (.slice A3' k3' c3')))
              obtain ⟨cl, r0, r1, r2⟩ := HS3.out _ (Below.refl _ _)
              have e3 : Ext W3 W3 := Below.refl _ _
              have hi1 : (0 : Int) ≤ (m : Int) := by omega
              have hi2 : (m : Int) < (m : Int) + 1 := by omega
              have hwm : IntKind.i64.wrap ((m : Int) + 1 - 1) = (m : Int) := by rw [wrap_in (by omega)]; omega
              have hwm2 : IntKind.i64.wrap (m : Int) = (m : Int) := wrap_in (by omega)
              clear h3 hG3 hcl hL9 hB9 hm64
              go_region_held3 (fun w' => w'.cell? ⟨fb, fo + m, none⟩ = some (.int .i64 lastv) ∧ w'.cell? ⟨B3, 0, none⟩ = some (.bool b3) ∧ w'.cell? ⟨B3, 1, none⟩ = some (.slice A3 k3 c3) ∧ w'.cell? ⟨B3, 2, none⟩ = some (.slice A3' k3' c3')) (exact HS3.out _ (by first | ((repeat first | assumption | exact Below.refl _ _ | refine ext_alloc ?_ _ | refine ext_drew ?_ | refine ext_set ?_ (by first | omega | (simp; done) | (simp; omega)) _); done) | fail))
                (first
                  | (go_at_call 26; (with_reducible refine (fof_n HN.out.1 HN.out.2).mono ?_); rintro _ s4 ⟨b4, A4, k4, c4, B4, l4, d4, rfl, h4, z4, _⟩; have f4 : Ext W3 s4 := Ext.trans (by first | ((repeat first | assumption | exact Below.refl _ _ | refine ext_alloc ?_ _ | refine ext_drew ?_ | refine ext_set ?_ (by first | omega | (simp; done) | (simp; omega)) _); done) | fail) z4; have HH4 := Lib.hid (fun (w' : World) (h : Ext s4 w') => FracV.any (L := 3) (h4.below h) HF1.out (by omega)))
                  | (go_at_call 26; (with_reducible refine (fof_n HT.out HN.out.2).mono ?_); rintro _ s5 ⟨b5, A5, k5, c5, B5, l5, d5, rfl, h5, z5, _⟩; have f5 : Ext W3 s5 := Ext.trans (by first | ((repeat first | assumption | exact Below.refl _ _ | refine ext_alloc ?_ _ | refine ext_drew ?_ | refine ext_set ?_ (by first | omega | (simp; done) | (simp; omega)) _); done) | fail) z5; have HH5 := Lib.hid (fun (w' : World) (h : Ext s5 w') => FracV.any (L := 3) (h5.below h) HF2.out (by omega)))
                  | (go_at_call 27; (with_reducible refine (mul_f (HX.out _ (by first | ((repeat first | assumption | exact Below.refl _ _ | refine ext_alloc ?_ _ | refine ext_drew ?_ | refine ext_set ?_ (by first | omega | (simp; done) | (simp; omega)) _); done) | fail)) (HH4.out _ (by first | ((repeat first | assumption | exact Below.refl _ _ | refine ext_alloc ?_ _ | refine ext_drew ?_ | refine ext_set ?_ (by first | omega | (simp; done) | (simp; omega)) _); done) | fail)) (by omega)).mono ?_); rintro _ s6 ⟨b6, A6, k6, c6, B6, l6, d6, rfl, h6, z6, _⟩; have f6 : Ext W3 s6 := Ext.trans (by first | ((repeat first | assumption | exact Below.refl _ _ | refine ext_alloc ?_ _ | refine ext_drew ?_ | refine ext_set ?_ (by first | omega | (simp; done) | (simp; omega)) _); done) | fail) z6; have HH6 := Lib.hid (fun (w' : World) (h : Ext s6 w') => FracV.any (L := 6) (h6.below h) (FB.mul HF3.out HF1.out (by omega)) (by omega)))
                  | (go_at_call 25; (with_reducible refine (cmp_e (HH6.out _ (by first | ((repeat first | assumption | exact Below.refl _ _ | refine ext_alloc ?_ _ | refine ext_drew ?_ | refine ext_set ?_ (by first | omega | (simp; done) | (simp; omega)) _); done) | fail)) (HH5.out _ (by first | ((repeat first | assumption | exact Below.refl _ _ | refine ext_alloc ?_ _ | refine ext_drew ?_ | refine ext_set ?_ (by first | omega | (simp; done) | (simp; omega)) _); done) | fail)) (by omega) HVAL.out).mono ?_); rintro _ s7 ⟨rfl, z7⟩; have f7 : Ext W3 s7 := Ext.trans (by first | ((repeat first | assumption | exact Below.refl _ _ | refine ext_alloc ?_ _ | refine ext_drew ?_ | refine ext_set ?_ (by first | omega | (simp; done) | (simp; omega)) _); done) | fail) z7))
              all_goals go_wp2
              all_goals go_ret
              all_goals exact ⟨rfl, y2.trans (Y3.trans f7)⟩
    · have HS := Lib.hid hs
      have HI := Lib.hid (fun (w' : World) (h : Ext w w') => hI.below h)
      clear hv hI hs
      go_enter Tryd.func6, Tryd.ntmps6
      go_wp2_with (first
        | (go_at_call 12; (with_reducible refine (eawake ht).mono ?_); rintro e w0 ⟨rfl, x0⟩)
        | (go_at_call 13; (with_reducible refine (few_t hl).mono ?_); rintro e w0 ⟨rfl, rfl⟩)
        | (go_at_call 14; (with_reducible refine (efreq_no (HI.out _ x0) HS.out).mono ?_); rintro e w2 ⟨A2, c2, rfl, h2, x2, n2⟩))
      go_ret
      exact ⟨rfl, x0.trans x2⟩
  · go_enter Tryd.func6, Tryd.ntmps6
    go_wp2_with (first
      | (go_at_call 12; (with_reducible refine (eawake ht).mono ?_); rintro e w1 ⟨rfl, x1⟩; have y1 : Ext w w1 := (by first | exact x1 | exact Ext.trans y1 x1); have ht := ht.ext x1)
      | (go_at_call 13; (with_reducible refine (few_f hl).mono ?_); rintro e w1' ⟨rfl, rfl⟩))
    go_ret
    exact ⟨rfl, y1⟩

end Go.Proofs.YtkjcbfaimonaoaaDoor
