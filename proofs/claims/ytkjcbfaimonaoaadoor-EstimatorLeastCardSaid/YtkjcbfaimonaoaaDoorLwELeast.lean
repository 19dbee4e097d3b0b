/- The walk of EstimatorLeast. -/
import Derived.Test.YtkjcbfaimonaoaaDoorEstQ
import Derived.Test.YtkjcbfaimonaoaaDoorLwESums
set_option linter.unusedVariables false
set_option linter.unusedSimpArgs false
set_option maxRecDepth 100000
namespace Go.Proofs.YtkjcbfaimonaoaaDoor
open Go.RowKit Num

theorem sign_e {b : Bool} {s t : Value} {q : Rat} {L : Nat} {z : Int} {w : World} (hx : AnyF w b s t q L) (hz : sgnQ q = z) :
    Calls Tryd.prog 37 #[.agg #[.bool b, s, t]] w (fun e w' => e = .returned (.int .i64 z) ∧ Ext w w') := by
  subst hz
  exact sign_f hx

set_option maxHeartbeats 8000000 in
theorem law_ELeast_A {A : Option Addr} {cc : Nat} {zs : List Int} {w : World} (hI : IntsV w (.slice A zs.length cc) zs) (ht : Tab10 w) (hl : zs.length ≤ 80) (hs : Samp zs) (hcase : zs.count 1 = zs.length) :
    Calls Tryd.prog 11 #[.slice A zs.length cc] w (fun e w' => e = .returned (.bool true) ∧ Ext w w') := by
  obtain ⟨hS9, hL9, hc9, hls9, hall9, hlt9⟩ := hs.facts
  obtain ⟨qc, hqc, fqc, lqc, eqc⟩ := chao_least hs
  obtain ⟨qj, hqj, fqj, lqj, eqj⟩ := jack_least hs
  obtain ⟨qk, hqk, fqk, pqk⟩ := cart_pos hs
  have HFD := Lib.hid (fb_i64 (n := (zs.length : Int)) (d := 1) (by omega) (by omega))
  have HF1 := Lib.hid (fb_i64 (n := 1) (d := 1) (by omega) (by omega))
  have HN := Lib.hid (show -9223372036854775808 ≤ (zs.length : Int) ∧ (zs.length : Int) ≤ 9223372036854775807 from by omega)
  obtain ⟨q1, hq1⟩ : ∃ q : Rat, q = ((zs.sum - (zs.count 1 : Int) : Int) : Rat) / (zs.sum : Rat) := ⟨_, rfl⟩
  have HF0 := Lib.hid (show FB q1 3 from by rw [hq1]; exact fb_i64 (by omega) (by omega))
  have HCOV := Lib.hid (show ∀ x w, IntsV w x zs → Calls Tryd.prog 20 #[x] w (GivesFE w q1) from fun x w hx => by rw [hq1]; exact ecov_ok hx hs)
  have ha : zs.count 1 = zs.length := hcase
  have hq1' : q1 = 0 := by rw [hq1, show zs.sum - (zs.count 1 : Int) = 0 from by have := hall9 ha; omega]; simp only [Rat.intCast_zero, Rat.div_def, Rat.zero_mul]
  have HSG := Lib.hid (show sgnQ q1 = 0 from (sgnQ_eq_zero _).2 hq1')
  have HCM := Lib.hid (show cmpQ q1 (((1 : Int) : Rat) / ((1 : Int) : Rat)) = -1 from by
    have h1 : q1 < ((1 : Int) : Rat) / ((1 : Int) : Rat) := by rw [hq1]; exact quot_lt_one (by omega) (by omega)
    unfold cmpQ; rw [if_pos h1])
  obtain ⟨zqc, hzqc, nzqc⟩ : ∃ z : Int, cmpQ qc (((zs.length : Int) : Rat) / ((1 : Int) : Rat)) = z ∧ 0 ≤ z := ⟨_, rfl, cmpQ_ge lqc⟩
  have HQC := Lib.hid hzqc
  clear hzqc
  obtain ⟨zqj, hzqj, nzqj⟩ : ∃ z : Int, cmpQ qj (((zs.length : Int) : Rat) / ((1 : Int) : Rat)) = z ∧ 0 ≤ z := ⟨_, rfl, cmpQ_ge lqj⟩
  have HQJ := Lib.hid hzqj
  clear hzqj
  have HQK := Lib.hid (show sgnQ qk = 1 from by unfold sgnQ; rw [if_neg (Rat.not_lt.2 (Rat.le_of_lt pqk)), if_pos pqk])
  have HQC1 := Lib.hid hqc
  have HQC2 := Lib.hid fqc
  have HQJ1 := Lib.hid hqj
  have HQJ2 := Lib.hid fqj
  have HQK1 := Lib.hid hqk
  have HQK2 := Lib.hid fqk
  have hA := Lib.hid hcase
  have HSL := Lib.hid (hall9 hcase)
  have hne0 : ((zs.length : Int) == 0) = false := beq_eq_false_iff_ne.2 (by omega)
  have HS := Lib.hid hs
  have HI := Lib.hid (fun (w' : World) (h : Ext w w') => hI.below h)
  clear hI hs hqc fqc hqj fqj hqk fqk lqc eqc lqj eqj pqk hall9 hlt9 hcase hq1 hq1' ha
  go_enter Tryd.func11, Tryd.ntmps11
  go_wp2_with (first
    | (go_at_call 12; (with_reducible refine (eawake ht).mono ?_); rintro e w0 ⟨rfl, V0⟩)
    | (go_at_call 13; (with_reducible refine (few_t hl).mono ?_); rintro e w0 ⟨rfl, rfl⟩))
  refine (HCOV.out _ _ (HI.out _ V0)).mono ?_
  rintro e w1 ⟨b1, A1, k1, c1, A1', k1', c1', rfl, h1, y1, n1, n1'⟩
  clear n1 n1'
  go_upto_region 4 with (fail)
  have hG1 := FBox.new w1 (.bool b1) (.slice A1 k1 c1) (.slice A1' k1' c1') 32
  have Y1 : Ext w0 (w1.alloc (.cells #[.bool b1, .slice A1 k1 c1, .slice A1' k1' c1'] 32)) := ext_alloc y1 _
  have h1 := h1.below (ext_alloc (Below.refl _ _) (.cells #[.bool b1, .slice A1 k1 c1, .slice A1' k1' c1'] 32))
  have hsz1 : w1.heap.size < (w1.alloc (.cells #[.bool b1, .slice A1 k1 c1, .slice A1' k1' c1'] 32)).heap.size := by simp
  generalize w1.alloc (.cells #[.bool b1, .slice A1 k1 c1, .slice A1' k1' c1'] 32) = W1 at *
  generalize w1.heap.size = B1 at *
  have HG1 := Lib.hid (fun (w' : World) (h : Ext W1 w') => hG1.below h)
  have HP1 := Lib.hid (fun (w' : World) (h : Ext W1 w') => FracV.any (L := 3) (h1.below h) HF0.out (by omega))
  clear hG1 h1 y1 hsz1
  go_wp2
  go_loopw [5, 6] (fun ov iv wr => ∃ i : Nat, i ≤ zs.length ∧ iv = .int .i64 i ∧ ov = .int .i64 ((zs.take i).count 1) ∧ wr = W1) (fun _ iv _ => zs.length - (intOf iv).toNat)
  case atStart => exact ⟨0, Nat.zero_le _, rfl, rfl, rfl⟩
  case round =>
    obtain ⟨i, hi, rfl, rfl, hwr⟩ := hrel
    obtain rfl : W1 = wr := hwr.symm
    clear hwr
    by_cases hil : i < zs.length
    · obtain ⟨ad, rfl, hb, hc⟩ := (HI.out _ (V0.trans Y1)).at_ hil
      have HSC := Lib.hid (show (zs.take (i + 1)).count 1 = (zs.take i).count 1 + (if zs.getD i 0 = 1 then 1 else 0) from by
        rw [take_snoc hil, List.count_append, List.count_singleton]
        by_cases e : zs.getD i 0 = 1 <;> simp [e])
      have hle : (zs.take i).count 1 ≤ 64 := by
        have := List.count_le_length (a := (1 : Int)) (l := zs.take i)
        rw [List.length_take] at this
        omega
      generalize zs.getD i 0 = z at *
      generalize (zs.take i).count 1 = q at *
      by_cases hz : z = 1
      · subst hz
        go_wp2
        go_roundw
        case rel => exact ⟨i + 1, by omega, by go_num, by rw [HSC.out, if_pos rfl]; go_num, trivial⟩
        case measure => simp [intOf]; omega
      · have HSZ := Lib.hid (HSC.out.trans (by rw [if_neg hz]))
        go_wp2
        go_roundw
        case rel => exact ⟨i + 1, by omega, by go_num, by rw [HSZ.out]; rfl, trivial⟩
        case measure => simp [intOf]; omega
    · have : i = zs.length := by omega
      subst this
      rw [List.take_length]
      rw [hA.out]
      go_wp2_with fail
      refine (fof_n HN.out (by omega)).mono ?_
      rintro e w2 ⟨b2, A2, k2, c2, A2', k2', c2', rfl, h2, y2, n2, n2'⟩
      clear n2 n2'
      go_upto_region 13 with (fail)
      have hG2 := FBox.new w2 (.bool b2) (.slice A2 k2 c2) (.slice A2' k2' c2') 32
      have Y2 : Ext W1 (w2.alloc (.cells #[.bool b2, .slice A2 k2 c2, .slice A2' k2' c2'] 32)) := ext_alloc y2 _
      have h2 := h2.below (ext_alloc (Below.refl _ _) (.cells #[.bool b2, .slice A2 k2 c2, .slice A2' k2' c2'] 32))
      have hsz2 : w2.heap.size < (w2.alloc (.cells #[.bool b2, .slice A2 k2 c2, .slice A2' k2' c2'] 32)).heap.size := by simp
      generalize w2.alloc (.cells #[.bool b2, .slice A2 k2 c2, .slice A2' k2' c2'] 32) = W2 at *
      generalize w2.heap.size = B2 at *
      have HG2 := Lib.hid (fun (w' : World) (h : Ext W2 w') => hG2.below h)
      have HP2 := Lib.hid (fun (w' : World) (h : Ext W2 w') => FracV.any (L := 3) (h2.below h) HFD.out (by omega))
      clear hG2 h2 y2 hsz2
      have HC1 := Lib.hid (fun (w' : World) (h : Ext W2 w') => (⟨(HG1.out _ (Y2.trans h)).1, (HG1.out _ (Y2.trans h)).2.1, (HG1.out _ (Y2.trans h)).2.2.1⟩ : w'.cell? ⟨B1, 0, none⟩ = some (.bool b1) ∧ w'.cell? ⟨B1, 1, none⟩ = some (.slice A1 k1 c1) ∧ w'.cell? ⟨B1, 2, none⟩ = some (.slice A1' k1' c1')))
      obtain ⟨r10, r11, r12⟩ := HC1.out _ (Below.refl _ _)
      have g0 : Ext W2 W2 := Below.refl _ _
      go_cut [76] (fun rv wx => rv = .bool false ∧ Ext W2 wx)
      case first =>
        go_region_held3 (fun w' => w'.cell? ⟨B1, 0, none⟩ = some (.bool b1) ∧ w'.cell? ⟨B1, 1, none⟩ = some (.slice A1 k1 c1) ∧ w'.cell? ⟨B1, 2, none⟩ = some (.slice A1' k1' c1')) (exact HC1.out _ (by first | ((repeat first | assumption | exact Below.refl _ _ | refine ext_alloc ?_ _ | refine ext_drew ?_ | refine ext_set ?_ (by first | omega | (simp; done) | (simp; omega)) _); done) | fail))
          (first
            | (go_at_call 37; (with_reducible refine (sign_e (HP1.out _ (Y2.trans (by first | ((repeat first | assumption | exact Below.refl _ _ | refine ext_alloc ?_ _ | refine ext_drew ?_ | refine ext_set ?_ (by first | omega | (simp; done) | (simp; omega)) _); done) | fail))) HSG.out).mono ?_); rintro _ s1 ⟨rfl, z1⟩; have g1 : Ext W2 s1 := Ext.trans (by first | ((repeat first | assumption | exact Below.refl _ _ | refine ext_alloc ?_ _ | refine ext_drew ?_ | refine ext_set ?_ (by first | omega | (simp; done) | (simp; omega)) _); done) | fail) z1)
            | (go_at_call 26; (with_reducible refine (fof_n (n := 1) (d := 1) (by omega) (by omega)).mono ?_); rintro _ s2 ⟨bo, Ao, ko, lo, Bo, mo, no, rfl, ho, z2, _⟩; have g2 : Ext W2 s2 := Ext.trans (by first | ((repeat first | assumption | exact Below.refl _ _ | refine ext_alloc ?_ _ | refine ext_drew ?_ | refine ext_set ?_ (by first | omega | (simp; done) | (simp; omega)) _); done) | fail) z2; have HO := Lib.hid (fun (w' : World) (h : Ext s2 w') => FracV.any (L := 3) (ho.below h) HF1.out (by omega)))
            | (go_at_call 25; (with_reducible refine (cmp_e (HP1.out _ (Y2.trans (by first | ((repeat first | assumption | exact Below.refl _ _ | refine ext_alloc ?_ _ | refine ext_drew ?_ | refine ext_set ?_ (by first | omega | (simp; done) | (simp; omega)) _); done) | fail))) (HO.out _ (by first | ((repeat first | assumption | exact Below.refl _ _ | refine ext_alloc ?_ _ | refine ext_drew ?_ | refine ext_set ?_ (by first | omega | (simp; done) | (simp; omega)) _); done) | fail)) (by omega) HCM.out).mono ?_); rintro _ s3 ⟨rfl, z3⟩; have g3 : Ext W2 s3 := Ext.trans (by first | ((repeat first | assumption | exact Below.refl _ _ | refine ext_alloc ?_ _ | refine ext_drew ?_ | refine ext_set ?_ (by first | omega | (simp; done) | (simp; omega)) _); done) | fail) z3))
        all_goals go_wp2
        all_goals go_meet
        all_goals exact ⟨rfl, (by first | ((repeat first | assumption | exact Below.refl _ _ | refine ext_alloc ?_ _ | refine ext_drew ?_ | refine ext_set ?_ (by first | omega | (simp; done) | (simp; omega)) _); done) | fail)⟩
      case rest =>
        obtain ⟨rfl, hX2⟩ := hcut
        obtain ⟨X2, hX2'⟩ : ∃ X2 : World, X2 = wc := ⟨_, rfl⟩
        subst hX2'
        clear r10 r11 r12
        have V2 : Ext w X2 := V0.trans (Y1.trans (Y2.trans hX2))
        go_wp2_with fail
        refine (egood_z (HI.out _ V2) HS.out (by show zs.sum = (zs.count 1 : Int); rw [hA.out]; exact HSL.out)).mono ?_
        rintro e w3 ⟨rfl, y3⟩
        go_upto_region 16 with (fail)
        have Y3 : Ext X2 (w3.alloc (.cells #[.bool false, .slice none 0 0, .slice none 0 0] 32)) := ext_alloc y3 _
        generalize w3.alloc (.cells #[.bool false, .slice none 0 0, .slice none 0 0] 32) = W3 at *
        generalize w3.heap.size = B3 at *
        have V3 := V2.trans Y3
        go_wp2_with fail
        refine (HQC1.out _ _ (HI.out _ V3)).mono ?_
        rintro e w4 ⟨b4, A4, k4, c4, A4', k4', c4', rfl, h4, y4, n4, n4'⟩
        clear n4 n4'
        go_upto_region 17 with (fail)
        have hG4 := FBox.new w4 (.bool b4) (.slice A4 k4 c4) (.slice A4' k4' c4') 32
        have Y4 : Ext W3 (w4.alloc (.cells #[.bool b4, .slice A4 k4 c4, .slice A4' k4' c4'] 32)) := ext_alloc y4 _
        have h4 := h4.below (ext_alloc (Below.refl _ _) (.cells #[.bool b4, .slice A4 k4 c4, .slice A4' k4' c4'] 32))
        have hsz4 : w4.heap.size < (w4.alloc (.cells #[.bool b4, .slice A4 k4 c4, .slice A4' k4' c4'] 32)).heap.size := by simp
        generalize w4.alloc (.cells #[.bool b4, .slice A4 k4 c4, .slice A4' k4' c4'] 32) = W4 at *
        generalize w4.heap.size = B4 at *
        have HG4 := Lib.hid (fun (w' : World) (h : Ext W4 w') => hG4.below h)
        have HP4 := Lib.hid (fun (w' : World) (h : Ext W4 w') => FracV.any (L := 7) (h4.below h) HQC2.out (by omega))
        clear hG4 h4 y4 hsz4
        have V4 := V3.trans Y4
        go_wp2_with fail
        refine (HQJ1.out _ _ (HI.out _ V4)).mono ?_
        rintro e w5 ⟨b5, A5, k5, c5, A5', k5', c5', rfl, h5, y5, n5, n5'⟩
        clear n5 n5'
        go_upto_region 18 with (fail)
        have hG5 := FBox.new w5 (.bool b5) (.slice A5 k5 c5) (.slice A5' k5' c5') 32
        have Y5 : Ext W4 (w5.alloc (.cells #[.bool b5, .slice A5 k5 c5, .slice A5' k5' c5'] 32)) := ext_alloc y5 _
        have h5 := h5.below (ext_alloc (Below.refl _ _) (.cells #[.bool b5, .slice A5 k5 c5, .slice A5' k5' c5'] 32))
        have hsz5 : w5.heap.size < (w5.alloc (.cells #[.bool b5, .slice A5 k5 c5, .slice A5' k5' c5'] 32)).heap.size := by simp
        generalize w5.alloc (.cells #[.bool b5, .slice A5 k5 c5, .slice A5' k5' c5'] 32) = W5 at *
        generalize w5.heap.size = B5 at *
        have HG5 := Lib.hid (fun (w' : World) (h : Ext W5 w') => hG5.below h)
        have HP5 := Lib.hid (fun (w' : World) (h : Ext W5 w') => FracV.any (L := 3) (h5.below h) HQJ2.out (by omega))
        clear hG5 h5 y5 hsz5
        have V5 := V4.trans Y5
        go_wp2_with fail
        refine (HQK1.out _ _ (HI.out _ V5)).mono ?_
        rintro e w6 ⟨b6, A6, k6, c6, A6', k6', c6', rfl, h6, y6, n6, n6'⟩
        clear n6 n6'
        go_upto_region 19 with (fail)
        have hG6 := FBox.new w6 (.bool b6) (.slice A6 k6 c6) (.slice A6' k6' c6') 32
        have Y6 : Ext W5 (w6.alloc (.cells #[.bool b6, .slice A6 k6 c6, .slice A6' k6' c6'] 32)) := ext_alloc y6 _
        have h6 := h6.below (ext_alloc (Below.refl _ _) (.cells #[.bool b6, .slice A6 k6 c6, .slice A6' k6' c6'] 32))
        have hsz6 : w6.heap.size < (w6.alloc (.cells #[.bool b6, .slice A6 k6 c6, .slice A6' k6' c6'] 32)).heap.size := by simp
        generalize w6.alloc (.cells #[.bool b6, .slice A6 k6 c6, .slice A6' k6' c6'] 32) = W6 at *
        generalize w6.heap.size = B6 at *
        have HG6 := Lib.hid (fun (w' : World) (h : Ext W6 w') => hG6.below h)
        have HP6 := Lib.hid (fun (w' : World) (h : Ext W6 w') => FracV.any (L := 3) (h6.below h) HQK2.out (by omega))
        clear hG6 h6 y6 hsz6
        have V6 := V5.trans Y6
        have f0 : Ext W6 W6 := Below.refl _ _
        have E5 : Ext W5 W6 := Y6
        have E4 : Ext W4 W6 := Y5.trans E5
        have E3 : Ext W3 W6 := Y4.trans E4
        have E2 : Ext W2 W6 := hX2.trans (Y3.trans E3)
        have E6 : Ext W6 W6 := Below.refl _ _
        obtain ⟨r20, r21, r22, _, _, _⟩ := HG2.out _ (E2.trans f0); obtain ⟨r40, r41, r42, _, _, _⟩ := HG4.out _ (E4.trans f0); obtain ⟨r50, r51, r52, _, _, _⟩ := HG5.out _ (E5.trans f0); obtain ⟨r60, r61, r62, _, _, _⟩ := HG6.out _ (E6.trans f0)
        go_wp2_with (first
          | (go_at_call 25; (with_reducible refine (cmp_e (HP4.out _ (E4.trans (by first | ((repeat first | assumption | exact Below.refl _ _ | refine ext_alloc ?_ _ | refine ext_drew ?_ | refine ext_set ?_ (by first | omega | (simp; done) | (simp; omega)) _); done) | fail))) (HP2.out _ (E2.trans (by first | ((repeat first | assumption | exact Below.refl _ _ | refine ext_alloc ?_ _ | refine ext_drew ?_ | refine ext_set ?_ (by first | omega | (simp; done) | (simp; omega)) _); done) | fail))) (by omega) HQC.out).mono ?_); rintro _ s4 ⟨rfl, z4⟩; have f4 : Ext W6 s4 := Ext.trans (by first | ((repeat first | assumption | exact Below.refl _ _ | refine ext_alloc ?_ _ | refine ext_drew ?_ | refine ext_set ?_ (by first | omega | (simp; done) | (simp; omega)) _); done) | fail) z4; obtain ⟨r20, r21, r22, _, _, _⟩ := HG2.out _ (E2.trans f4); obtain ⟨r40, r41, r42, _, _, _⟩ := HG4.out _ (E4.trans f4); obtain ⟨r50, r51, r52, _, _, _⟩ := HG5.out _ (E5.trans f4); obtain ⟨r60, r61, r62, _, _, _⟩ := HG6.out _ (E6.trans f4))
          | (go_at_call 25; (with_reducible refine (cmp_e (HP5.out _ (E5.trans (by first | ((repeat first | assumption | exact Below.refl _ _ | refine ext_alloc ?_ _ | refine ext_drew ?_ | refine ext_set ?_ (by first | omega | (simp; done) | (simp; omega)) _); done) | fail))) (HP2.out _ (E2.trans (by first | ((repeat first | assumption | exact Below.refl _ _ | refine ext_alloc ?_ _ | refine ext_drew ?_ | refine ext_set ?_ (by first | omega | (simp; done) | (simp; omega)) _); done) | fail))) (by omega) HQJ.out).mono ?_); rintro _ s5 ⟨rfl, z5⟩; have f5 : Ext W6 s5 := Ext.trans (by first | ((repeat first | assumption | exact Below.refl _ _ | refine ext_alloc ?_ _ | refine ext_drew ?_ | refine ext_set ?_ (by first | omega | (simp; done) | (simp; omega)) _); done) | fail) z5; obtain ⟨r20, r21, r22, _, _, _⟩ := HG2.out _ (E2.trans f5); obtain ⟨r40, r41, r42, _, _, _⟩ := HG4.out _ (E4.trans f5); obtain ⟨r50, r51, r52, _, _, _⟩ := HG5.out _ (E5.trans f5); obtain ⟨r60, r61, r62, _, _, _⟩ := HG6.out _ (E6.trans f5))
          | (go_at_call 37; (with_reducible refine (sign_e (HP6.out _ (E6.trans (by first | ((repeat first | assumption | exact Below.refl _ _ | refine ext_alloc ?_ _ | refine ext_drew ?_ | refine ext_set ?_ (by first | omega | (simp; done) | (simp; omega)) _); done) | fail))) HQK.out).mono ?_); rintro _ s6 ⟨rfl, z6⟩; have f6 : Ext W6 s6 := Ext.trans (by first | ((repeat first | assumption | exact Below.refl _ _ | refine ext_alloc ?_ _ | refine ext_drew ?_ | refine ext_set ?_ (by first | omega | (simp; done) | (simp; omega)) _); done) | fail) z6; obtain ⟨r20, r21, r22, _, _, _⟩ := HG2.out _ (E2.trans f6); obtain ⟨r40, r41, r42, _, _, _⟩ := HG4.out _ (E4.trans f6); obtain ⟨r50, r51, r52, _, _, _⟩ := HG5.out _ (E5.trans f6); obtain ⟨r60, r61, r62, _, _, _⟩ := HG6.out _ (E6.trans f6)))
        all_goals go_ret
        all_goals exact ⟨rfl, V6.trans (by first | ((repeat first | assumption | exact Below.refl _ _ | refine ext_alloc ?_ _ | refine ext_drew ?_ | refine ext_set ?_ (by first | omega | (simp; done) | (simp; omega)) _); done) | fail)⟩

set_option maxHeartbeats 8000000 in
theorem law_ELeast_B {A : Option Addr} {cc : Nat} {zs : List Int} {w : World} (hI : IntsV w (.slice A zs.length cc) zs) (ht : Tab10 w) (hl : zs.length ≤ 80) (hs : Samp zs) (hcase : 0 < zs.count 1 ∧ zs.count 1 < zs.length) :
    Calls Tryd.prog 11 #[.slice A zs.length cc] w (fun e w' => e = .returned (.bool true) ∧ Ext w w') := by
  obtain ⟨hS9, hL9, hc9, hls9, hall9, hlt9⟩ := hs.facts
  obtain ⟨qc, hqc, fqc, lqc, eqc⟩ := chao_least hs
  obtain ⟨qj, hqj, fqj, lqj, eqj⟩ := jack_least hs
  obtain ⟨qk, hqk, fqk, pqk⟩ := cart_pos hs
  have HFD := Lib.hid (fb_i64 (n := (zs.length : Int)) (d := 1) (by omega) (by omega))
  have HF1 := Lib.hid (fb_i64 (n := 1) (d := 1) (by omega) (by omega))
  have HN := Lib.hid (show -9223372036854775808 ≤ (zs.length : Int) ∧ (zs.length : Int) ≤ 9223372036854775807 from by omega)
  obtain ⟨q1, hq1⟩ : ∃ q : Rat, q = ((zs.sum - (zs.count 1 : Int) : Int) : Rat) / (zs.sum : Rat) := ⟨_, rfl⟩
  have HF0 := Lib.hid (show FB q1 3 from by rw [hq1]; exact fb_i64 (by omega) (by omega))
  have HCOV := Lib.hid (show ∀ x w, IntsV w x zs → Calls Tryd.prog 20 #[x] w (GivesFE w q1) from fun x w hx => by rw [hq1]; exact ecov_ok hx hs)
  have hq1' : 0 < q1 := by rw [hq1]; exact quot_pos (by omega) (by omega)
  have HSG := Lib.hid (show sgnQ q1 = 1 from by unfold sgnQ; rw [if_neg (Rat.not_lt.2 (Rat.le_of_lt hq1')), if_pos hq1'])
  have HCM := Lib.hid (show cmpQ q1 (((1 : Int) : Rat) / ((1 : Int) : Rat)) = -1 from by
    have h1 : q1 < ((1 : Int) : Rat) / ((1 : Int) : Rat) := by rw [hq1]; exact quot_lt_one (by omega) (by omega)
    unfold cmpQ; rw [if_pos h1])
  have p1 : 0 ≤ (zs.length : Int) * zs.sum := Int.mul_nonneg (by omega) (by omega)
  have p2 : (zs.length : Int) * zs.sum ≤ 64 * 64 := Int.mul_le_mul (by omega) (by omega) (by omega) (by omega)
  obtain ⟨qg, hqg⟩ : ∃ q : Rat, q = (((zs.length : Int) * zs.sum : Int) : Rat) / ((zs.sum - (zs.count 1 : Int) : Int) : Rat) := ⟨_, rfl⟩
  have HFG := Lib.hid (show FB qg 3 from by rw [hqg]; exact fb_i64 (by omega) (by omega))
  have HGOOD := Lib.hid (show ∀ x w, IntsV w x zs → Calls Tryd.prog 22 #[x] w (GivesFE w qg) from fun x w hx => by rw [hqg]; exact egood_ok hx hs (by show zs.sum ≠ (zs.count 1 : Int); omega))
  have hlg : ((zs.length : Int) : Rat) / ((1 : Int) : Rat) ≤ qg := by rw [hqg]; exact le_quot (by omega) (Int.mul_le_mul_of_nonneg_left (by omega) (by omega))
  obtain ⟨zqg, hzqg, nzqg⟩ : ∃ z : Int, cmpQ qg (((zs.length : Int) : Rat) / ((1 : Int) : Rat)) = z ∧ 0 ≤ z := ⟨_, rfl, cmpQ_ge hlg⟩
  have HQG := Lib.hid hzqg
  clear hzqg
  obtain ⟨zqc, hzqc, nzqc⟩ : ∃ z : Int, cmpQ qc (((zs.length : Int) : Rat) / ((1 : Int) : Rat)) = z ∧ 0 ≤ z := ⟨_, rfl, cmpQ_ge lqc⟩
  have HQC := Lib.hid hzqc
  clear hzqc
  obtain ⟨zqj, hzqj, nzqj⟩ : ∃ z : Int, cmpQ qj (((zs.length : Int) : Rat) / ((1 : Int) : Rat)) = z ∧ 0 ≤ z := ⟨_, rfl, cmpQ_ge lqj⟩
  have HQJ := Lib.hid hzqj
  clear hzqj
  have HQK := Lib.hid (show sgnQ qk = 1 from by unfold sgnQ; rw [if_neg (Rat.not_lt.2 (Rat.le_of_lt pqk)), if_pos pqk])
  have HQC1 := Lib.hid hqc
  have HQC2 := Lib.hid fqc
  have HQJ1 := Lib.hid hqj
  have HQJ2 := Lib.hid fqj
  have HQK1 := Lib.hid hqk
  have HQK2 := Lib.hid fqk
  have hne0 : ((zs.count 1 : Int) == (zs.length : Int)) = false := beq_eq_false_iff_ne.2 (by omega)
  have hne1 : ((zs.count 1 : Int) == 0) = false := beq_eq_false_iff_ne.2 (by omega)
  have hpos : (0 : Int) < (zs.count 1 : Int) := by omega
  have hposN : 0 < zs.count 1 := hcase.1
  have hmem : (1 : Int) ∈ zs := List.count_pos_iff.1 hcase.1
  have HS := Lib.hid hs
  have HI := Lib.hid (fun (w' : World) (h : Ext w w') => hI.below h)
  clear hI hs hqc fqc hqj fqj hqk fqk lqc eqc lqj eqj pqk hall9 hlt9 hcase hq1 hq1' hqg p1 p2 hlg
  go_enter Tryd.func11, Tryd.ntmps11
  go_wp2_with (first
    | (go_at_call 12; (with_reducible refine (eawake ht).mono ?_); rintro e w0 ⟨rfl, V0⟩)
    | (go_at_call 13; (with_reducible refine (few_t hl).mono ?_); rintro e w0 ⟨rfl, rfl⟩))
  refine (HCOV.out _ _ (HI.out _ V0)).mono ?_
  rintro e w1 ⟨b1, A1, k1, c1, A1', k1', c1', rfl, h1, y1, n1, n1'⟩
  clear n1 n1'
  go_upto_region 4 with (fail)
  have hG1 := FBox.new w1 (.bool b1) (.slice A1 k1 c1) (.slice A1' k1' c1') 32
  have Y1 : Ext w0 (w1.alloc (.cells #[.bool b1, .slice A1 k1 c1, .slice A1' k1' c1'] 32)) := ext_alloc y1 _
  have h1 := h1.below (ext_alloc (Below.refl _ _) (.cells #[.bool b1, .slice A1 k1 c1, .slice A1' k1' c1'] 32))
  have hsz1 : w1.heap.size < (w1.alloc (.cells #[.bool b1, .slice A1 k1 c1, .slice A1' k1' c1'] 32)).heap.size := by simp
  generalize w1.alloc (.cells #[.bool b1, .slice A1 k1 c1, .slice A1' k1' c1'] 32) = W1 at *
  generalize w1.heap.size = B1 at *
  have HG1 := Lib.hid (fun (w' : World) (h : Ext W1 w') => hG1.below h)
  have HP1 := Lib.hid (fun (w' : World) (h : Ext W1 w') => FracV.any (L := 3) (h1.below h) HF0.out (by omega))
  clear hG1 h1 y1 hsz1
  go_wp2
  go_loopw [5, 6] (fun ov iv wr => ∃ i : Nat, i ≤ zs.length ∧ iv = .int .i64 i ∧ ov = .int .i64 ((zs.take i).count 1) ∧ wr = W1) (fun _ iv _ => zs.length - (intOf iv).toNat)
  case atStart => exact ⟨0, Nat.zero_le _, rfl, rfl, rfl⟩
  case round =>
    obtain ⟨i, hi, rfl, rfl, hwr⟩ := hrel
    obtain rfl : W1 = wr := hwr.symm
    clear hwr
    by_cases hil : i < zs.length
    · obtain ⟨ad, rfl, hb, hc⟩ := (HI.out _ (V0.trans Y1)).at_ hil
      have HSC := Lib.hid (show (zs.take (i + 1)).count 1 = (zs.take i).count 1 + (if zs.getD i 0 = 1 then 1 else 0) from by
        rw [take_snoc hil, List.count_append, List.count_singleton]
        by_cases e : zs.getD i 0 = 1 <;> simp [e])
      have hle : (zs.take i).count 1 ≤ 64 := by
        have := List.count_le_length (a := (1 : Int)) (l := zs.take i)
        rw [List.length_take] at this
        omega
      generalize zs.getD i 0 = z at *
      generalize (zs.take i).count 1 = q at *
      by_cases hz : z = 1
      · subst hz
        go_wp2
        go_roundw
        case rel => exact ⟨i + 1, by omega, by go_num, by rw [HSC.out, if_pos rfl]; go_num, trivial⟩
        case measure => simp [intOf]; omega
      · have HSZ := Lib.hid (HSC.out.trans (by rw [if_neg hz]))
        go_wp2
        go_roundw
        case rel => exact ⟨i + 1, by omega, by go_num, by rw [HSZ.out]; rfl, trivial⟩
        case measure => simp [intOf]; omega
    · have : i = zs.length := by omega
      subst this
      rw [List.take_length]
      go_wp2_with fail
      refine (fof_n HN.out (by omega)).mono ?_
      rintro e w2 ⟨b2, A2, k2, c2, A2', k2', c2', rfl, h2, y2, n2, n2'⟩
      clear n2 n2'
      go_upto_region 13 with (fail)
      have hG2 := FBox.new w2 (.bool b2) (.slice A2 k2 c2) (.slice A2' k2' c2') 32
      have Y2 : Ext W1 (w2.alloc (.cells #[.bool b2, .slice A2 k2 c2, .slice A2' k2' c2'] 32)) := ext_alloc y2 _
      have h2 := h2.below (ext_alloc (Below.refl _ _) (.cells #[.bool b2, .slice A2 k2 c2, .slice A2' k2' c2'] 32))
      have hsz2 : w2.heap.size < (w2.alloc (.cells #[.bool b2, .slice A2 k2 c2, .slice A2' k2' c2'] 32)).heap.size := by simp
      generalize w2.alloc (.cells #[.bool b2, .slice A2 k2 c2, .slice A2' k2' c2'] 32) = W2 at *
      generalize w2.heap.size = B2 at *
      have HG2 := Lib.hid (fun (w' : World) (h : Ext W2 w') => hG2.below h)
      have HP2 := Lib.hid (fun (w' : World) (h : Ext W2 w') => FracV.any (L := 3) (h2.below h) HFD.out (by omega))
      clear hG2 h2 y2 hsz2
      have HC1 := Lib.hid (fun (w' : World) (h : Ext W2 w') => (⟨(HG1.out _ (Y2.trans h)).1, (HG1.out _ (Y2.trans h)).2.1, (HG1.out _ (Y2.trans h)).2.2.1⟩ : w'.cell? ⟨B1, 0, none⟩ = some (.bool b1) ∧ w'.cell? ⟨B1, 1, none⟩ = some (.slice A1 k1 c1) ∧ w'.cell? ⟨B1, 2, none⟩ = some (.slice A1' k1' c1')))
      obtain ⟨r10, r11, r12⟩ := HC1.out _ (Below.refl _ _)
      have g0 : Ext W2 W2 := Below.refl _ _
      go_cut [76] (fun rv wx => rv = .bool false ∧ Ext W2 wx)
      case first =>
        go_region_held3 (fun w' => w'.cell? ⟨B1, 0, none⟩ = some (.bool b1) ∧ w'.cell? ⟨B1, 1, none⟩ = some (.slice A1 k1 c1) ∧ w'.cell? ⟨B1, 2, none⟩ = some (.slice A1' k1' c1')) (exact HC1.out _ (by first | ((repeat first | assumption | exact Below.refl _ _ | refine ext_alloc ?_ _ | refine ext_drew ?_ | refine ext_set ?_ (by first | omega | (simp; done) | (simp; omega)) _); done) | fail))
          (first
            | (go_at_call 37; (with_reducible refine (sign_e (HP1.out _ (Y2.trans (by first | ((repeat first | assumption | exact Below.refl _ _ | refine ext_alloc ?_ _ | refine ext_drew ?_ | refine ext_set ?_ (by first | omega | (simp; done) | (simp; omega)) _); done) | fail))) HSG.out).mono ?_); rintro _ s1 ⟨rfl, z1⟩; have g1 : Ext W2 s1 := Ext.trans (by first | ((repeat first | assumption | exact Below.refl _ _ | refine ext_alloc ?_ _ | refine ext_drew ?_ | refine ext_set ?_ (by first | omega | (simp; done) | (simp; omega)) _); done) | fail) z1)
            | (go_at_call 26; (with_reducible refine (fof_n (n := 1) (d := 1) (by omega) (by omega)).mono ?_); rintro _ s2 ⟨bo, Ao, ko, lo, Bo, mo, no, rfl, ho, z2, _⟩; have g2 : Ext W2 s2 := Ext.trans (by first | ((repeat first | assumption | exact Below.refl _ _ | refine ext_alloc ?_ _ | refine ext_drew ?_ | refine ext_set ?_ (by first | omega | (simp; done) | (simp; omega)) _); done) | fail) z2; have HO := Lib.hid (fun (w' : World) (h : Ext s2 w') => FracV.any (L := 3) (ho.below h) HF1.out (by omega)))
            | (go_at_call 25; (with_reducible refine (cmp_e (HP1.out _ (Y2.trans (by first | ((repeat first | assumption | exact Below.refl _ _ | refine ext_alloc ?_ _ | refine ext_drew ?_ | refine ext_set ?_ (by first | omega | (simp; done) | (simp; omega)) _); done) | fail))) (HO.out _ (by first | ((repeat first | assumption | exact Below.refl _ _ | refine ext_alloc ?_ _ | refine ext_drew ?_ | refine ext_set ?_ (by first | omega | (simp; done) | (simp; omega)) _); done) | fail)) (by omega) HCM.out).mono ?_); rintro _ s3 ⟨rfl, z3⟩; have g3 : Ext W2 s3 := Ext.trans (by first | ((repeat first | assumption | exact Below.refl _ _ | refine ext_alloc ?_ _ | refine ext_drew ?_ | refine ext_set ?_ (by first | omega | (simp; done) | (simp; omega)) _); done) | fail) z3))
        all_goals go_wp2
        all_goals go_meet
        all_goals exact ⟨rfl, (by first | ((repeat first | assumption | exact Below.refl _ _ | refine ext_alloc ?_ _ | refine ext_drew ?_ | refine ext_set ?_ (by first | omega | (simp; done) | (simp; omega)) _); done) | fail)⟩
      case rest =>
        obtain ⟨rfl, hX2⟩ := hcut
        obtain ⟨X2, hX2'⟩ : ∃ X2 : World, X2 = wc := ⟨_, rfl⟩
        subst hX2'
        clear r10 r11 r12
        have V2 : Ext w X2 := V0.trans (Y1.trans (Y2.trans hX2))
        go_wp2_with fail
        refine (HGOOD.out _ _ (HI.out _ V2)).mono ?_
        rintro e w3 ⟨b3, A3, k3, c3, A3', k3', c3', rfl, h3, y3, n3, n3'⟩
        clear n3 n3'
        go_upto_region 16 with (fail)
        have hG3 := FBox.new w3 (.bool b3) (.slice A3 k3 c3) (.slice A3' k3' c3') 32
        have Y3 : Ext X2 (w3.alloc (.cells #[.bool b3, .slice A3 k3 c3, .slice A3' k3' c3'] 32)) := ext_alloc y3 _
        have h3 := h3.below (ext_alloc (Below.refl _ _) (.cells #[.bool b3, .slice A3 k3 c3, .slice A3' k3' c3'] 32))
        have hsz3 : w3.heap.size < (w3.alloc (.cells #[.bool b3, .slice A3 k3 c3, .slice A3' k3' c3'] 32)).heap.size := by simp
        generalize w3.alloc (.cells #[.bool b3, .slice A3 k3 c3, .slice A3' k3' c3'] 32) = W3 at *
        generalize w3.heap.size = B3 at *
        have HG3 := Lib.hid (fun (w' : World) (h : Ext W3 w') => hG3.below h)
        have HP3 := Lib.hid (fun (w' : World) (h : Ext W3 w') => FracV.any (L := 3) (h3.below h) HFG.out (by omega))
        clear hG3 h3 y3 hsz3
        have V3 := V2.trans Y3
        go_wp2_with fail
        refine (HQC1.out _ _ (HI.out _ V3)).mono ?_
        rintro e w4 ⟨b4, A4, k4, c4, A4', k4', c4', rfl, h4, y4, n4, n4'⟩
        clear n4 n4'
        go_upto_region 17 with (fail)
        have hG4 := FBox.new w4 (.bool b4) (.slice A4 k4 c4) (.slice A4' k4' c4') 32
        have Y4 : Ext W3 (w4.alloc (.cells #[.bool b4, .slice A4 k4 c4, .slice A4' k4' c4'] 32)) := ext_alloc y4 _
        have h4 := h4.below (ext_alloc (Below.refl _ _) (.cells #[.bool b4, .slice A4 k4 c4, .slice A4' k4' c4'] 32))
        have hsz4 : w4.heap.size < (w4.alloc (.cells #[.bool b4, .slice A4 k4 c4, .slice A4' k4' c4'] 32)).heap.size := by simp
        generalize w4.alloc (.cells #[.bool b4, .slice A4 k4 c4, .slice A4' k4' c4'] 32) = W4 at *
        generalize w4.heap.size = B4 at *
        have HG4 := Lib.hid (fun (w' : World) (h : Ext W4 w') => hG4.below h)
        have HP4 := Lib.hid (fun (w' : World) (h : Ext W4 w') => FracV.any (L := 7) (h4.below h) HQC2.out (by omega))
        clear hG4 h4 y4 hsz4
        have V4 := V3.trans Y4
        go_wp2_with fail
        refine (HQJ1.out _ _ (HI.out _ V4)).mono ?_
        rintro e w5 ⟨b5, A5, k5, c5, A5', k5', c5', rfl, h5, y5, n5, n5'⟩
        clear n5 n5'
        go_upto_region 18 with (fail)
        have hG5 := FBox.new w5 (.bool b5) (.slice A5 k5 c5) (.slice A5' k5' c5') 32
        have Y5 : Ext W4 (w5.alloc (.cells #[.bool b5, .slice A5 k5 c5, .slice A5' k5' c5'] 32)) := ext_alloc y5 _
        have h5 := h5.below (ext_alloc (Below.refl _ _) (.cells #[.bool b5, .slice A5 k5 c5, .slice A5' k5' c5'] 32))
        have hsz5 : w5.heap.size < (w5.alloc (.cells #[.bool b5, .slice A5 k5 c5, .slice A5' k5' c5'] 32)).heap.size := by simp
        generalize w5.alloc (.cells #[.bool b5, .slice A5 k5 c5, .slice A5' k5' c5'] 32) = W5 at *
        generalize w5.heap.size = B5 at *
        have HG5 := Lib.hid (fun (w' : World) (h : Ext W5 w') => hG5.below h)
        have HP5 := Lib.hid (fun (w' : World) (h : Ext W5 w') => FracV.any (L := 3) (h5.below h) HQJ2.out (by omega))
        clear hG5 h5 y5 hsz5
        have V5 := V4.trans Y5
        go_wp2_with fail
        refine (HQK1.out _ _ (HI.out _ V5)).mono ?_
        rintro e w6 ⟨b6, A6, k6, c6, A6', k6', c6', rfl, h6, y6, n6, n6'⟩
        clear n6 n6'
        go_upto_region 19 with (fail)
        have hG6 := FBox.new w6 (.bool b6) (.slice A6 k6 c6) (.slice A6' k6' c6') 32
        have Y6 : Ext W5 (w6.alloc (.cells #[.bool b6, .slice A6 k6 c6, .slice A6' k6' c6'] 32)) := ext_alloc y6 _
        have h6 := h6.below (ext_alloc (Below.refl _ _) (.cells #[.bool b6, .slice A6 k6 c6, .slice A6' k6' c6'] 32))
        have hsz6 : w6.heap.size < (w6.alloc (.cells #[.bool b6, .slice A6 k6 c6, .slice A6' k6' c6'] 32)).heap.size := by simp
        generalize w6.alloc (.cells #[.bool b6, .slice A6 k6 c6, .slice A6' k6' c6'] 32) = W6 at *
        generalize w6.heap.size = B6 at *
        have HG6 := Lib.hid (fun (w' : World) (h : Ext W6 w') => hG6.below h)
        have HP6 := Lib.hid (fun (w' : World) (h : Ext W6 w') => FracV.any (L := 3) (h6.below h) HQK2.out (by omega))
        clear hG6 h6 y6 hsz6
        have V6 := V5.trans Y6
        have f0 : Ext W6 W6 := Below.refl _ _
        have E5 : Ext W5 W6 := Y6
        have E4 : Ext W4 W6 := Y5.trans E5
        have E3 : Ext W3 W6 := Y4.trans E4
        have E2 : Ext W2 W6 := hX2.trans (Y3.trans E3)
        have E6 : Ext W6 W6 := Below.refl _ _
        obtain ⟨r20, r21, r22, _, _, _⟩ := HG2.out _ (E2.trans f0); obtain ⟨r30, r31, r32, _, _, _⟩ := HG3.out _ (E3.trans f0); obtain ⟨r40, r41, r42, _, _, _⟩ := HG4.out _ (E4.trans f0); obtain ⟨r50, r51, r52, _, _, _⟩ := HG5.out _ (E5.trans f0); obtain ⟨r60, r61, r62, _, _, _⟩ := HG6.out _ (E6.trans f0)
        go_wp2_with (first
          | (go_at_call 25; (with_reducible refine (cmp_e (HP4.out _ (E4.trans (by first | ((repeat first | assumption | exact Below.refl _ _ | refine ext_alloc ?_ _ | refine ext_drew ?_ | refine ext_set ?_ (by first | omega | (simp; done) | (simp; omega)) _); done) | fail))) (HP2.out _ (E2.trans (by first | ((repeat first | assumption | exact Below.refl _ _ | refine ext_alloc ?_ _ | refine ext_drew ?_ | refine ext_set ?_ (by first | omega | (simp; done) | (simp; omega)) _); done) | fail))) (by omega) HQC.out).mono ?_); rintro _ s4 ⟨rfl, z4⟩; have f4 : Ext W6 s4 := Ext.trans (by first | ((repeat first | assumption | exact Below.refl _ _ | refine ext_alloc ?_ _ | refine ext_drew ?_ | refine ext_set ?_ (by first | omega | (simp; done) | (simp; omega)) _); done) | fail) z4; obtain ⟨r20, r21, r22, _, _, _⟩ := HG2.out _ (E2.trans f4); obtain ⟨r30, r31, r32, _, _, _⟩ := HG3.out _ (E3.trans f4); obtain ⟨r40, r41, r42, _, _, _⟩ := HG4.out _ (E4.trans f4); obtain ⟨r50, r51, r52, _, _, _⟩ := HG5.out _ (E5.trans f4); obtain ⟨r60, r61, r62, _, _, _⟩ := HG6.out _ (E6.trans f4))
          | (go_at_call 25; (with_reducible refine (cmp_e (HP5.out _ (E5.trans (by first | ((repeat first | assumption | exact Below.refl _ _ | refine ext_alloc ?_ _ | refine ext_drew ?_ | refine ext_set ?_ (by first | omega | (simp; done) | (simp; omega)) _); done) | fail))) (HP2.out _ (E2.trans (by first | ((repeat first | assumption | exact Below.refl _ _ | refine ext_alloc ?_ _ | refine ext_drew ?_ | refine ext_set ?_ (by first | omega | (simp; done) | (simp; omega)) _); done) | fail))) (by omega) HQJ.out).mono ?_); rintro _ s5 ⟨rfl, z5⟩; have f5 : Ext W6 s5 := Ext.trans (by first | ((repeat first | assumption | exact Below.refl _ _ | refine ext_alloc ?_ _ | refine ext_drew ?_ | refine ext_set ?_ (by first | omega | (simp; done) | (simp; omega)) _); done) | fail) z5; obtain ⟨r20, r21, r22, _, _, _⟩ := HG2.out _ (E2.trans f5); obtain ⟨r30, r31, r32, _, _, _⟩ := HG3.out _ (E3.trans f5); obtain ⟨r40, r41, r42, _, _, _⟩ := HG4.out _ (E4.trans f5); obtain ⟨r50, r51, r52, _, _, _⟩ := HG5.out _ (E5.trans f5); obtain ⟨r60, r61, r62, _, _, _⟩ := HG6.out _ (E6.trans f5))
          | (go_at_call 25; (with_reducible refine (cmp_e (HP3.out _ (E3.trans (by first | ((repeat first | assumption | exact Below.refl _ _ | refine ext_alloc ?_ _ | refine ext_drew ?_ | refine ext_set ?_ (by first | omega | (simp; done) | (simp; omega)) _); done) | fail))) (HP2.out _ (E2.trans (by first | ((repeat first | assumption | exact Below.refl _ _ | refine ext_alloc ?_ _ | refine ext_drew ?_ | refine ext_set ?_ (by first | omega | (simp; done) | (simp; omega)) _); done) | fail))) (by omega) HQG.out).mono ?_); rintro _ s3 ⟨rfl, z3⟩; have f3 : Ext W6 s3 := Ext.trans (by first | ((repeat first | assumption | exact Below.refl _ _ | refine ext_alloc ?_ _ | refine ext_drew ?_ | refine ext_set ?_ (by first | omega | (simp; done) | (simp; omega)) _); done) | fail) z3; obtain ⟨r20, r21, r22, _, _, _⟩ := HG2.out _ (E2.trans f3); obtain ⟨r30, r31, r32, _, _, _⟩ := HG3.out _ (E3.trans f3); obtain ⟨r40, r41, r42, _, _, _⟩ := HG4.out _ (E4.trans f3); obtain ⟨r50, r51, r52, _, _, _⟩ := HG5.out _ (E5.trans f3); obtain ⟨r60, r61, r62, _, _, _⟩ := HG6.out _ (E6.trans f3))
          | (go_at_call 37; (with_reducible refine (sign_e (HP6.out _ (E6.trans (by first | ((repeat first | assumption | exact Below.refl _ _ | refine ext_alloc ?_ _ | refine ext_drew ?_ | refine ext_set ?_ (by first | omega | (simp; done) | (simp; omega)) _); done) | fail))) HQK.out).mono ?_); rintro _ s6 ⟨rfl, z6⟩; have f6 : Ext W6 s6 := Ext.trans (by first | ((repeat first | assumption | exact Below.refl _ _ | refine ext_alloc ?_ _ | refine ext_drew ?_ | refine ext_set ?_ (by first | omega | (simp; done) | (simp; omega)) _); done) | fail) z6; obtain ⟨r20, r21, r22, _, _, _⟩ := HG2.out _ (E2.trans f6); obtain ⟨r30, r31, r32, _, _, _⟩ := HG3.out _ (E3.trans f6); obtain ⟨r40, r41, r42, _, _, _⟩ := HG4.out _ (E4.trans f6); obtain ⟨r50, r51, r52, _, _, _⟩ := HG5.out _ (E5.trans f6); obtain ⟨r60, r61, r62, _, _, _⟩ := HG6.out _ (E6.trans f6)))
        all_goals go_ret
        all_goals exact ⟨rfl, V6.trans (by first | ((repeat first | assumption | exact Below.refl _ _ | refine ext_alloc ?_ _ | refine ext_drew ?_ | refine ext_set ?_ (by first | omega | (simp; done) | (simp; omega)) _); done) | fail)⟩

set_option maxHeartbeats 8000000 in
theorem law_ELeast_C {A : Option Addr} {cc : Nat} {zs : List Int} {w : World} (hI : IntsV w (.slice A zs.length cc) zs) (ht : Tab10 w) (hl : zs.length ≤ 80) (hs : Samp zs) (hcase : zs.count 1 = 0) :
    Calls Tryd.prog 11 #[.slice A zs.length cc] w (fun e w' => e = .returned (.bool true) ∧ Ext w w') := by
  obtain ⟨hS9, hL9, hc9, hls9, hall9, hlt9⟩ := hs.facts
  obtain ⟨qc, hqc, fqc, lqc, eqc⟩ := chao_least hs
  obtain ⟨qj, hqj, fqj, lqj, eqj⟩ := jack_least hs
  obtain ⟨qk, hqk, fqk, pqk⟩ := cart_pos hs
  have HFD := Lib.hid (fb_i64 (n := (zs.length : Int)) (d := 1) (by omega) (by omega))
  have HF1 := Lib.hid (fb_i64 (n := 1) (d := 1) (by omega) (by omega))
  have HN := Lib.hid (show -9223372036854775808 ≤ (zs.length : Int) ∧ (zs.length : Int) ≤ 9223372036854775807 from by omega)
  obtain ⟨q1, hq1⟩ : ∃ q : Rat, q = ((zs.sum - (zs.count 1 : Int) : Int) : Rat) / (zs.sum : Rat) := ⟨_, rfl⟩
  have HF0 := Lib.hid (show FB q1 3 from by rw [hq1]; exact fb_i64 (by omega) (by omega))
  have HCOV := Lib.hid (show ∀ x w, IntsV w x zs → Calls Tryd.prog 20 #[x] w (GivesFE w q1) from fun x w hx => by rw [hq1]; exact ecov_ok hx hs)
  have hq1' : q1 = ((1 : Int) : Rat) / ((1 : Int) : Rat) := by rw [hq1, show zs.sum - (zs.count 1 : Int) = zs.sum from by omega]; exact quot_one (by omega)
  have hq1p : 0 < q1 := by rw [hq1]; exact quot_pos (by omega) (by omega)
  have HSG := Lib.hid (show sgnQ q1 = 1 from by unfold sgnQ; rw [if_neg (Rat.not_lt.2 (Rat.le_of_lt hq1p)), if_pos hq1p])
  have HCM := Lib.hid (show cmpQ q1 (((1 : Int) : Rat) / ((1 : Int) : Rat)) = 0 from by rw [hq1', cmpQ_zero])
  have p1 : 0 ≤ (zs.length : Int) * zs.sum := Int.mul_nonneg (by omega) (by omega)
  have p2 : (zs.length : Int) * zs.sum ≤ 64 * 64 := Int.mul_le_mul (by omega) (by omega) (by omega) (by omega)
  obtain ⟨qg, hqg⟩ : ∃ q : Rat, q = (((zs.length : Int) * zs.sum : Int) : Rat) / ((zs.sum - (zs.count 1 : Int) : Int) : Rat) := ⟨_, rfl⟩
  have HFG := Lib.hid (show FB qg 3 from by rw [hqg]; exact fb_i64 (by omega) (by omega))
  have HGOOD := Lib.hid (show ∀ x w, IntsV w x zs → Calls Tryd.prog 22 #[x] w (GivesFE w qg) from fun x w hx => by rw [hqg]; exact egood_ok hx hs (by show zs.sum ≠ (zs.count 1 : Int); omega))
  have hlg : ((zs.length : Int) : Rat) / ((1 : Int) : Rat) ≤ qg := by rw [hqg]; exact le_quot (by omega) (Int.mul_le_mul_of_nonneg_left (by omega) (by omega))
  have hgz : qg = ((zs.length : Int) : Rat) / ((1 : Int) : Rat) := by
    rw [hqg, show zs.sum - (zs.count 1 : Int) = zs.sum from by omega, Rat.intCast_mul]
    have hs' : (zs.sum : Rat) ≠ 0 := by exact_mod_cast (show zs.sum ≠ 0 from by omega)
    simp only [Rat.intCast_one, Rat.div_def]
    grind
  have HQG := Lib.hid (show cmpQ qg (((zs.length : Int) : Rat) / ((1 : Int) : Rat)) = 0 from by rw [hgz, cmpQ_zero])
  have HQC := Lib.hid (show cmpQ qc (((zs.length : Int) : Rat) / ((1 : Int) : Rat)) = 0 from by rw [(eqc hcase), cmpQ_zero])
  have HQJ := Lib.hid (show cmpQ qj (((zs.length : Int) : Rat) / ((1 : Int) : Rat)) = 0 from by rw [(eqj hcase), cmpQ_zero])
  have HQK := Lib.hid (show sgnQ qk = 1 from by unfold sgnQ; rw [if_neg (Rat.not_lt.2 (Rat.le_of_lt pqk)), if_pos pqk])
  have HQC1 := Lib.hid hqc
  have HQC2 := Lib.hid fqc
  have HQJ1 := Lib.hid hqj
  have HQJ2 := Lib.hid fqj
  have HQK1 := Lib.hid hqk
  have HQK2 := Lib.hid fqk
  have hA := Lib.hid hcase
  have hne0 : ((0 : Int) == (zs.length : Int)) = false := beq_eq_false_iff_ne.2 (by omega)
  have HS := Lib.hid hs
  have HI := Lib.hid (fun (w' : World) (h : Ext w w') => hI.below h)
  clear hI hs hqc fqc hqj fqj hqk fqk lqc eqc lqj eqj pqk hall9 hlt9 hcase hq1 hq1' hqg p1 p2 hlg hgz hq1p
  go_enter Tryd.func11, Tryd.ntmps11
  go_wp2_with (first
    | (go_at_call 12; (with_reducible refine (eawake ht).mono ?_); rintro e w0 ⟨rfl, V0⟩)
    | (go_at_call 13; (with_reducible refine (few_t hl).mono ?_); rintro e w0 ⟨rfl, rfl⟩))
  refine (HCOV.out _ _ (HI.out _ V0)).mono ?_
  rintro e w1 ⟨b1, A1, k1, c1, A1', k1', c1', rfl, h1, y1, n1, n1'⟩
  clear n1 n1'
  go_upto_region 4 with (fail)
  have hG1 := FBox.new w1 (.bool b1) (.slice A1 k1 c1) (.slice A1' k1' c1') 32
  have Y1 : Ext w0 (w1.alloc (.cells #[.bool b1, .slice A1 k1 c1, .slice A1' k1' c1'] 32)) := ext_alloc y1 _
  have h1 := h1.below (ext_alloc (Below.refl _ _) (.cells #[.bool b1, .slice A1 k1 c1, .slice A1' k1' c1'] 32))
  have hsz1 : w1.heap.size < (w1.alloc (.cells #[.bool b1, .slice A1 k1 c1, .slice A1' k1' c1'] 32)).heap.size := by simp
  generalize w1.alloc (.cells #[.bool b1, .slice A1 k1 c1, .slice A1' k1' c1'] 32) = W1 at *
  generalize w1.heap.size = B1 at *
  have HG1 := Lib.hid (fun (w' : World) (h : Ext W1 w') => hG1.below h)
  have HP1 := Lib.hid (fun (w' : World) (h : Ext W1 w') => FracV.any (L := 3) (h1.below h) HF0.out (by omega))
  clear hG1 h1 y1 hsz1
  go_wp2
  go_loopw [5, 6] (fun ov iv wr => ∃ i : Nat, i ≤ zs.length ∧ iv = .int .i64 i ∧ ov = .int .i64 ((zs.take i).count 1) ∧ wr = W1) (fun _ iv _ => zs.length - (intOf iv).toNat)
  case atStart => exact ⟨0, Nat.zero_le _, rfl, rfl, rfl⟩
  case round =>
    obtain ⟨i, hi, rfl, rfl, hwr⟩ := hrel
    obtain rfl : W1 = wr := hwr.symm
    clear hwr
    by_cases hil : i < zs.length
    · obtain ⟨ad, rfl, hb, hc⟩ := (HI.out _ (V0.trans Y1)).at_ hil
      have HSC := Lib.hid (show (zs.take (i + 1)).count 1 = (zs.take i).count 1 + (if zs.getD i 0 = 1 then 1 else 0) from by
        rw [take_snoc hil, List.count_append, List.count_singleton]
        by_cases e : zs.getD i 0 = 1 <;> simp [e])
      have hle : (zs.take i).count 1 ≤ 64 := by
        have := List.count_le_length (a := (1 : Int)) (l := zs.take i)
        rw [List.length_take] at this
        omega
      generalize zs.getD i 0 = z at *
      generalize (zs.take i).count 1 = q at *
      by_cases hz : z = 1
      · subst hz
        go_wp2
        go_roundw
        case rel => exact ⟨i + 1, by omega, by go_num, by rw [HSC.out, if_pos rfl]; go_num, trivial⟩
        case measure => simp [intOf]; omega
      · have HSZ := Lib.hid (HSC.out.trans (by rw [if_neg hz]))
        go_wp2
        go_roundw
        case rel => exact ⟨i + 1, by omega, by go_num, by rw [HSZ.out]; rfl, trivial⟩
        case measure => simp [intOf]; omega
    · have : i = zs.length := by omega
      subst this
      rw [List.take_length]
      rw [hA.out]
      rw [show ((0 : Nat) : Int) = 0 from rfl]
      go_wp2_with fail
      refine (fof_n HN.out (by omega)).mono ?_
      rintro e w2 ⟨b2, A2, k2, c2, A2', k2', c2', rfl, h2, y2, n2, n2'⟩
      clear n2 n2'
      go_upto_region 13 with (fail)
      have hG2 := FBox.new w2 (.bool b2) (.slice A2 k2 c2) (.slice A2' k2' c2') 32
      have Y2 : Ext W1 (w2.alloc (.cells #[.bool b2, .slice A2 k2 c2, .slice A2' k2' c2'] 32)) := ext_alloc y2 _
      have h2 := h2.below (ext_alloc (Below.refl _ _) (.cells #[.bool b2, .slice A2 k2 c2, .slice A2' k2' c2'] 32))
      have hsz2 : w2.heap.size < (w2.alloc (.cells #[.bool b2, .slice A2 k2 c2, .slice A2' k2' c2'] 32)).heap.size := by simp
      generalize w2.alloc (.cells #[.bool b2, .slice A2 k2 c2, .slice A2' k2' c2'] 32) = W2 at *
      generalize w2.heap.size = B2 at *
      have HG2 := Lib.hid (fun (w' : World) (h : Ext W2 w') => hG2.below h)
      have HP2 := Lib.hid (fun (w' : World) (h : Ext W2 w') => FracV.any (L := 3) (h2.below h) HFD.out (by omega))
      clear hG2 h2 y2 hsz2
      have HC1 := Lib.hid (fun (w' : World) (h : Ext W2 w') => (⟨(HG1.out _ (Y2.trans h)).1, (HG1.out _ (Y2.trans h)).2.1, (HG1.out _ (Y2.trans h)).2.2.1⟩ : w'.cell? ⟨B1, 0, none⟩ = some (.bool b1) ∧ w'.cell? ⟨B1, 1, none⟩ = some (.slice A1 k1 c1) ∧ w'.cell? ⟨B1, 2, none⟩ = some (.slice A1' k1' c1')))
      obtain ⟨r10, r11, r12⟩ := HC1.out _ (Below.refl _ _)
      have g0 : Ext W2 W2 := Below.refl _ _
      go_cut [76] (fun rv wx => rv = .bool false ∧ Ext W2 wx)
      case first =>
        go_region_held3 (fun w' => w'.cell? ⟨B1, 0, none⟩ = some (.bool b1) ∧ w'.cell? ⟨B1, 1, none⟩ = some (.slice A1 k1 c1) ∧ w'.cell? ⟨B1, 2, none⟩ = some (.slice A1' k1' c1')) (exact HC1.out _ (by first | ((repeat first | assumption | exact Below.refl _ _ | refine ext_alloc ?_ _ | refine ext_drew ?_ | refine ext_set ?_ (by first | omega | (simp; done) | (simp; omega)) _); done) | fail))
          (first
            | (go_at_call 37; (with_reducible refine (sign_e (HP1.out _ (Y2.trans (by first | ((repeat first | assumption | exact Below.refl _ _ | refine ext_alloc ?_ _ | refine ext_drew ?_ | refine ext_set ?_ (by first | omega | (simp; done) | (simp; omega)) _); done) | fail))) HSG.out).mono ?_); rintro _ s1 ⟨rfl, z1⟩; have g1 : Ext W2 s1 := Ext.trans (by first | ((repeat first | assumption | exact Below.refl _ _ | refine ext_alloc ?_ _ | refine ext_drew ?_ | refine ext_set ?_ (by first | omega | (simp; done) | (simp; omega)) _); done) | fail) z1)
            | (go_at_call 26; (with_reducible refine (fof_n (n := 1) (d := 1) (by omega) (by omega)).mono ?_); rintro _ s2 ⟨bo, Ao, ko, lo, Bo, mo, no, rfl, ho, z2, _⟩; have g2 : Ext W2 s2 := Ext.trans (by first | ((repeat first | assumption | exact Below.refl _ _ | refine ext_alloc ?_ _ | refine ext_drew ?_ | refine ext_set ?_ (by first | omega | (simp; done) | (simp; omega)) _); done) | fail) z2; have HO := Lib.hid (fun (w' : World) (h : Ext s2 w') => FracV.any (L := 3) (ho.below h) HF1.out (by omega)))
            | (go_at_call 25; (with_reducible refine (cmp_e (HP1.out _ (Y2.trans (by first | ((repeat first | assumption | exact Below.refl _ _ | refine ext_alloc ?_ _ | refine ext_drew ?_ | refine ext_set ?_ (by first | omega | (simp; done) | (simp; omega)) _); done) | fail))) (HO.out _ (by first | ((repeat first | assumption | exact Below.refl _ _ | refine ext_alloc ?_ _ | refine ext_drew ?_ | refine ext_set ?_ (by first | omega | (simp; done) | (simp; omega)) _); done) | fail)) (by omega) HCM.out).mono ?_); rintro _ s3 ⟨rfl, z3⟩; have g3 : Ext W2 s3 := Ext.trans (by first | ((repeat first | assumption | exact Below.refl _ _ | refine ext_alloc ?_ _ | refine ext_drew ?_ | refine ext_set ?_ (by first | omega | (simp; done) | (simp; omega)) _); done) | fail) z3))
        all_goals go_wp2
        all_goals go_meet
        all_goals exact ⟨rfl, (by first | ((repeat first | assumption | exact Below.refl _ _ | refine ext_alloc ?_ _ | refine ext_drew ?_ | refine ext_set ?_ (by first | omega | (simp; done) | (simp; omega)) _); done) | fail)⟩
      case rest =>
        obtain ⟨rfl, hX2⟩ := hcut
        obtain ⟨X2, hX2'⟩ : ∃ X2 : World, X2 = wc := ⟨_, rfl⟩
        subst hX2'
        clear r10 r11 r12
        have V2 : Ext w X2 := V0.trans (Y1.trans (Y2.trans hX2))
        go_wp2_with fail
        refine (HGOOD.out _ _ (HI.out _ V2)).mono ?_
        rintro e w3 ⟨b3, A3, k3, c3, A3', k3', c3', rfl, h3, y3, n3, n3'⟩
        clear n3 n3'
        go_upto_region 16 with (fail)
        have hG3 := FBox.new w3 (.bool b3) (.slice A3 k3 c3) (.slice A3' k3' c3') 32
        have Y3 : Ext X2 (w3.alloc (.cells #[.bool b3, .slice A3 k3 c3, .slice A3' k3' c3'] 32)) := ext_alloc y3 _
        have h3 := h3.below (ext_alloc (Below.refl _ _) (.cells #[.bool b3, .slice A3 k3 c3, .slice A3' k3' c3'] 32))
        have hsz3 : w3.heap.size < (w3.alloc (.cells #[.bool b3, .slice A3 k3 c3, .slice A3' k3' c3'] 32)).heap.size := by simp
        generalize w3.alloc (.cells #[.bool b3, .slice A3 k3 c3, .slice A3' k3' c3'] 32) = W3 at *
        generalize w3.heap.size = B3 at *
        have HG3 := Lib.hid (fun (w' : World) (h : Ext W3 w') => hG3.below h)
        have HP3 := Lib.hid (fun (w' : World) (h : Ext W3 w') => FracV.any (L := 3) (h3.below h) HFG.out (by omega))
        clear hG3 h3 y3 hsz3
        have V3 := V2.trans Y3
        go_wp2_with fail
        refine (HQC1.out _ _ (HI.out _ V3)).mono ?_
        rintro e w4 ⟨b4, A4, k4, c4, A4', k4', c4', rfl, h4, y4, n4, n4'⟩
        clear n4 n4'
        go_upto_region 17 with (fail)
        have hG4 := FBox.new w4 (.bool b4) (.slice A4 k4 c4) (.slice A4' k4' c4') 32
        have Y4 : Ext W3 (w4.alloc (.cells #[.bool b4, .slice A4 k4 c4, .slice A4' k4' c4'] 32)) := ext_alloc y4 _
        have h4 := h4.below (ext_alloc (Below.refl _ _) (.cells #[.bool b4, .slice A4 k4 c4, .slice A4' k4' c4'] 32))
        have hsz4 : w4.heap.size < (w4.alloc (.cells #[.bool b4, .slice A4 k4 c4, .slice A4' k4' c4'] 32)).heap.size := by simp
        generalize w4.alloc (.cells #[.bool b4, .slice A4 k4 c4, .slice A4' k4' c4'] 32) = W4 at *
        generalize w4.heap.size = B4 at *
        have HG4 := Lib.hid (fun (w' : World) (h : Ext W4 w') => hG4.below h)
        have HP4 := Lib.hid (fun (w' : World) (h : Ext W4 w') => FracV.any (L := 7) (h4.below h) HQC2.out (by omega))
        clear hG4 h4 y4 hsz4
        have V4 := V3.trans Y4
        go_wp2_with fail
        refine (HQJ1.out _ _ (HI.out _ V4)).mono ?_
        rintro e w5 ⟨b5, A5, k5, c5, A5', k5', c5', rfl, h5, y5, n5, n5'⟩
        clear n5 n5'
        go_upto_region 18 with (fail)
        have hG5 := FBox.new w5 (.bool b5) (.slice A5 k5 c5) (.slice A5' k5' c5') 32
        have Y5 : Ext W4 (w5.alloc (.cells #[.bool b5, .slice A5 k5 c5, .slice A5' k5' c5'] 32)) := ext_alloc y5 _
        have h5 := h5.below (ext_alloc (Below.refl _ _) (.cells #[.bool b5, .slice A5 k5 c5, .slice A5' k5' c5'] 32))
        have hsz5 : w5.heap.size < (w5.alloc (.cells #[.bool b5, .slice A5 k5 c5, .slice A5' k5' c5'] 32)).heap.size := by simp
        generalize w5.alloc (.cells #[.bool b5, .slice A5 k5 c5, .slice A5' k5' c5'] 32) = W5 at *
        generalize w5.heap.size = B5 at *
        have HG5 := Lib.hid (fun (w' : World) (h : Ext W5 w') => hG5.below h)
        have HP5 := Lib.hid (fun (w' : World) (h : Ext W5 w') => FracV.any (L := 3) (h5.below h) HQJ2.out (by omega))
        clear hG5 h5 y5 hsz5
        have V5 := V4.trans Y5
        go_wp2_with fail
        refine (HQK1.out _ _ (HI.out _ V5)).mono ?_
        rintro e w6 ⟨b6, A6, k6, c6, A6', k6', c6', rfl, h6, y6, n6, n6'⟩
        clear n6 n6'
        go_upto_region 19 with (fail)
        have hG6 := FBox.new w6 (.bool b6) (.slice A6 k6 c6) (.slice A6' k6' c6') 32
        have Y6 : Ext W5 (w6.alloc (.cells #[.bool b6, .slice A6 k6 c6, .slice A6' k6' c6'] 32)) := ext_alloc y6 _
        have h6 := h6.below (ext_alloc (Below.refl _ _) (.cells #[.bool b6, .slice A6 k6 c6, .slice A6' k6' c6'] 32))
        have hsz6 : w6.heap.size < (w6.alloc (.cells #[.bool b6, .slice A6 k6 c6, .slice A6' k6' c6'] 32)).heap.size := by simp
        generalize w6.alloc (.cells #[.bool b6, .slice A6 k6 c6, .slice A6' k6' c6'] 32) = W6 at *
        generalize w6.heap.size = B6 at *
        have HG6 := Lib.hid (fun (w' : World) (h : Ext W6 w') => hG6.below h)
        have HP6 := Lib.hid (fun (w' : World) (h : Ext W6 w') => FracV.any (L := 3) (h6.below h) HQK2.out (by omega))
        clear hG6 h6 y6 hsz6
        have V6 := V5.trans Y6
        have f0 : Ext W6 W6 := Below.refl _ _
        have E5 : Ext W5 W6 := Y6
        have E4 : Ext W4 W6 := Y5.trans E5
        have E3 : Ext W3 W6 := Y4.trans E4
        have E2 : Ext W2 W6 := hX2.trans (Y3.trans E3)
        have E6 : Ext W6 W6 := Below.refl _ _
        obtain ⟨r20, r21, r22, _, _, _⟩ := HG2.out _ (E2.trans f0); obtain ⟨r30, r31, r32, _, _, _⟩ := HG3.out _ (E3.trans f0); obtain ⟨r40, r41, r42, _, _, _⟩ := HG4.out _ (E4.trans f0); obtain ⟨r50, r51, r52, _, _, _⟩ := HG5.out _ (E5.trans f0); obtain ⟨r60, r61, r62, _, _, _⟩ := HG6.out _ (E6.trans f0)
        go_upto_region 25 with (first
          | (go_at_call 25; (with_reducible refine (cmp_e (HP4.out _ (E4.trans (by first | ((repeat first | assumption | exact Below.refl _ _ | refine ext_alloc ?_ _ | refine ext_drew ?_ | refine ext_set ?_ (by first | omega | (simp; done) | (simp; omega)) _); done) | fail))) (HP2.out _ (E2.trans (by first | ((repeat first | assumption | exact Below.refl _ _ | refine ext_alloc ?_ _ | refine ext_drew ?_ | refine ext_set ?_ (by first | omega | (simp; done) | (simp; omega)) _); done) | fail))) (by omega) HQC.out).mono ?_); rintro _ s4 ⟨rfl, z4⟩; have f4 : Ext W6 s4 := Ext.trans (by first | ((repeat first | assumption | exact Below.refl _ _ | refine ext_alloc ?_ _ | refine ext_drew ?_ | refine ext_set ?_ (by first | omega | (simp; done) | (simp; omega)) _); done) | fail) z4; obtain ⟨r20, r21, r22, _, _, _⟩ := HG2.out _ (E2.trans f4); obtain ⟨r30, r31, r32, _, _, _⟩ := HG3.out _ (E3.trans f4); obtain ⟨r40, r41, r42, _, _, _⟩ := HG4.out _ (E4.trans f4); obtain ⟨r50, r51, r52, _, _, _⟩ := HG5.out _ (E5.trans f4); obtain ⟨r60, r61, r62, _, _, _⟩ := HG6.out _ (E6.trans f4))
          | (go_at_call 25; (with_reducible refine (cmp_e (HP5.out _ (E5.trans (by first | ((repeat first | assumption | exact Below.refl _ _ | refine ext_alloc ?_ _ | refine ext_drew ?_ | refine ext_set ?_ (by first | omega | (simp; done) | (simp; omega)) _); done) | fail))) (HP2.out _ (E2.trans (by first | ((repeat first | assumption | exact Below.refl _ _ | refine ext_alloc ?_ _ | refine ext_drew ?_ | refine ext_set ?_ (by first | omega | (simp; done) | (simp; omega)) _); done) | fail))) (by omega) HQJ.out).mono ?_); rintro _ s5 ⟨rfl, z5⟩; have f5 : Ext W6 s5 := Ext.trans (by first | ((repeat first | assumption | exact Below.refl _ _ | refine ext_alloc ?_ _ | refine ext_drew ?_ | refine ext_set ?_ (by first | omega | (simp; done) | (simp; omega)) _); done) | fail) z5; obtain ⟨r20, r21, r22, _, _, _⟩ := HG2.out _ (E2.trans f5); obtain ⟨r30, r31, r32, _, _, _⟩ := HG3.out _ (E3.trans f5); obtain ⟨r40, r41, r42, _, _, _⟩ := HG4.out _ (E4.trans f5); obtain ⟨r50, r51, r52, _, _, _⟩ := HG5.out _ (E5.trans f5); obtain ⟨r60, r61, r62, _, _, _⟩ := HG6.out _ (E6.trans f5))
          | (go_at_call 25; (with_reducible refine (cmp_e (HP3.out _ (E3.trans (by first | ((repeat first | assumption | exact Below.refl _ _ | refine ext_alloc ?_ _ | refine ext_drew ?_ | refine ext_set ?_ (by first | omega | (simp; done) | (simp; omega)) _); done) | fail))) (HP2.out _ (E2.trans (by first | ((repeat first | assumption | exact Below.refl _ _ | refine ext_alloc ?_ _ | refine ext_drew ?_ | refine ext_set ?_ (by first | omega | (simp; done) | (simp; omega)) _); done) | fail))) (by omega) HQG.out).mono ?_); rintro _ s3 ⟨rfl, z3⟩; have f3 : Ext W6 s3 := Ext.trans (by first | ((repeat first | assumption | exact Below.refl _ _ | refine ext_alloc ?_ _ | refine ext_drew ?_ | refine ext_set ?_ (by first | omega | (simp; done) | (simp; omega)) _); done) | fail) z3; obtain ⟨r20, r21, r22, _, _, _⟩ := HG2.out _ (E2.trans f3); obtain ⟨r30, r31, r32, _, _, _⟩ := HG3.out _ (E3.trans f3); obtain ⟨r40, r41, r42, _, _, _⟩ := HG4.out _ (E4.trans f3); obtain ⟨r50, r51, r52, _, _, _⟩ := HG5.out _ (E5.trans f3); obtain ⟨r60, r61, r62, _, _, _⟩ := HG6.out _ (E6.trans f3))
          | (go_at_call 37; (with_reducible refine (sign_e (HP6.out _ (E6.trans (by first | ((repeat first | assumption | exact Below.refl _ _ | refine ext_alloc ?_ _ | refine ext_drew ?_ | refine ext_set ?_ (by first | omega | (simp; done) | (simp; omega)) _); done) | fail))) HQK.out).mono ?_); rintro _ s6 ⟨rfl, z6⟩; have f6 : Ext W6 s6 := Ext.trans (by first | ((repeat first | assumption | exact Below.refl _ _ | refine ext_alloc ?_ _ | refine ext_drew ?_ | refine ext_set ?_ (by first | omega | (simp; done) | (simp; omega)) _); done) | fail) z6; obtain ⟨r20, r21, r22, _, _, _⟩ := HG2.out _ (E2.trans f6); obtain ⟨r30, r31, r32, _, _, _⟩ := HG3.out _ (E3.trans f6); obtain ⟨r40, r41, r42, _, _, _⟩ := HG4.out _ (E4.trans f6); obtain ⟨r50, r51, r52, _, _, _⟩ := HG5.out _ (E5.trans f6); obtain ⟨r60, r61, r62, _, _, _⟩ := HG6.out _ (E6.trans f6)))
        have HC25 := Lib.hid (fun (w' : World) (h : Ext W6 w') => (⟨(HG2.out _ (E2.trans h)).1, (HG2.out _ (E2.trans h)).2.1, (HG2.out _ (E2.trans h)).2.2.1, (HG3.out _ (E3.trans h)).1, (HG3.out _ (E3.trans h)).2.1, (HG3.out _ (E3.trans h)).2.2.1, (HG4.out _ (E4.trans h)).1, (HG4.out _ (E4.trans h)).2.1, (HG4.out _ (E4.trans h)).2.2.1, (HG5.out _ (E5.trans h)).1, (HG5.out _ (E5.trans h)).2.1, (HG5.out _ (E5.trans h)).2.2.1⟩ : w'.cell? ⟨B2, 0, none⟩ = some (.bool b2) ∧ w'.cell? ⟨B2, 1, none⟩ = some (.slice A2 k2 c2) ∧ w'.cell? ⟨B2, 2, none⟩ = some (.slice A2' k2' c2') ∧ w'.cell? ⟨B3, 0, none⟩ = some (.bool b3) ∧ w'.cell? ⟨B3, 1, none⟩ = some (.slice A3 k3 c3) ∧ w'.cell? ⟨B3, 2, none⟩ = some (.slice A3' k3' c3') ∧ w'.cell? ⟨B4, 0, none⟩ = some (.bool b4) ∧ w'.cell? ⟨B4, 1, none⟩ = some (.slice A4 k4 c4) ∧ w'.cell? ⟨B4, 2, none⟩ = some (.slice A4' k4' c4') ∧ w'.cell? ⟨B5, 0, none⟩ = some (.bool b5) ∧ w'.cell? ⟨B5, 1, none⟩ = some (.slice A5 k5 c5) ∧ w'.cell? ⟨B5, 2, none⟩ = some (.slice A5' k5' c5')))
        first
          | (go_region_held3 (fun w' => w'.cell? ⟨B2, 0, none⟩ = some (.bool b2) ∧ w'.cell? ⟨B2, 1, none⟩ = some (.slice A2 k2 c2) ∧ w'.cell? ⟨B2, 2, none⟩ = some (.slice A2' k2' c2') ∧ w'.cell? ⟨B3, 0, none⟩ = some (.bool b3) ∧ w'.cell? ⟨B3, 1, none⟩ = some (.slice A3 k3 c3) ∧ w'.cell? ⟨B3, 2, none⟩ = some (.slice A3' k3' c3') ∧ w'.cell? ⟨B4, 0, none⟩ = some (.bool b4) ∧ w'.cell? ⟨B4, 1, none⟩ = some (.slice A4 k4 c4) ∧ w'.cell? ⟨B4, 2, none⟩ = some (.slice A4' k4' c4') ∧ w'.cell? ⟨B5, 0, none⟩ = some (.bool b5) ∧ w'.cell? ⟨B5, 1, none⟩ = some (.slice A5 k5 c5) ∧ w'.cell? ⟨B5, 2, none⟩ = some (.slice A5' k5' c5')) (exact HC25.out _ (by first | ((repeat first | assumption | exact Below.refl _ _ | refine ext_alloc ?_ _ | refine ext_drew ?_ | refine ext_set ?_ (by first | omega | (simp; done) | (simp; omega)) _); done) | fail)) (first
            | (go_at_call 25; (with_reducible refine (cmp_e (HP3.out _ (E3.trans (by first | ((repeat first | assumption | exact Below.refl _ _ | refine ext_alloc ?_ _ | refine ext_drew ?_ | refine ext_set ?_ (by first | omega | (simp; done) | (simp; omega)) _); done) | fail))) (HP2.out _ (E2.trans (by first | ((repeat first | assumption | exact Below.refl _ _ | refine ext_alloc ?_ _ | refine ext_drew ?_ | refine ext_set ?_ (by first | omega | (simp; done) | (simp; omega)) _); done) | fail))) (by omega) HQG.out).mono ?_); rintro _ s7 ⟨rfl, z7⟩; have f7 : Ext W6 s7 := Ext.trans (by first | ((repeat first | assumption | exact Below.refl _ _ | refine ext_alloc ?_ _ | refine ext_drew ?_ | refine ext_set ?_ (by first | omega | (simp; done) | (simp; omega)) _); done) | fail) z7)
            | (go_at_call 25; (with_reducible refine (cmp_e (HP4.out _ (E4.trans (by first | ((repeat first | assumption | exact Below.refl _ _ | refine ext_alloc ?_ _ | refine ext_drew ?_ | refine ext_set ?_ (by first | omega | (simp; done) | (simp; omega)) _); done) | fail))) (HP2.out _ (E2.trans (by first | ((repeat first | assumption | exact Below.refl _ _ | refine ext_alloc ?_ _ | refine ext_drew ?_ | refine ext_set ?_ (by first | omega | (simp; done) | (simp; omega)) _); done) | fail))) (by omega) HQC.out).mono ?_); rintro _ s8 ⟨rfl, z8⟩; have f8 : Ext W6 s8 := Ext.trans (by first | ((repeat first | assumption | exact Below.refl _ _ | refine ext_alloc ?_ _ | refine ext_drew ?_ | refine ext_set ?_ (by first | omega | (simp; done) | (simp; omega)) _); done) | fail) z8)
            | (go_at_call 25; (with_reducible refine (cmp_e (HP5.out _ (E5.trans (by first | ((repeat first | assumption | exact Below.refl _ _ | refine ext_alloc ?_ _ | refine ext_drew ?_ | refine ext_set ?_ (by first | omega | (simp; done) | (simp; omega)) _); done) | fail))) (HP2.out _ (E2.trans (by first | ((repeat first | assumption | exact Below.refl _ _ | refine ext_alloc ?_ _ | refine ext_drew ?_ | refine ext_set ?_ (by first | omega | (simp; done) | (simp; omega)) _); done) | fail))) (by omega) HQJ.out).mono ?_); rintro _ s9 ⟨rfl, z9⟩; have f9 : Ext W6 s9 := Ext.trans (by first | ((repeat first | assumption | exact Below.refl _ _ | refine ext_alloc ?_ _ | refine ext_drew ?_ | refine ext_set ?_ (by first | omega | (simp; done) | (simp; omega)) _); done) | fail) z9)))
          | (go_wp2_with (first
            | (go_at_call 25; (with_reducible refine (cmp_e (HP4.out _ (E4.trans (by first | ((repeat first | assumption | exact Below.refl _ _ | refine ext_alloc ?_ _ | refine ext_drew ?_ | refine ext_set ?_ (by first | omega | (simp; done) | (simp; omega)) _); done) | fail))) (HP2.out _ (E2.trans (by first | ((repeat first | assumption | exact Below.refl _ _ | refine ext_alloc ?_ _ | refine ext_drew ?_ | refine ext_set ?_ (by first | omega | (simp; done) | (simp; omega)) _); done) | fail))) (by omega) HQC.out).mono ?_); rintro _ s4 ⟨rfl, z4⟩; have f4 : Ext W6 s4 := Ext.trans (by first | ((repeat first | assumption | exact Below.refl _ _ | refine ext_alloc ?_ _ | refine ext_drew ?_ | refine ext_set ?_ (by first | omega | (simp; done) | (simp; omega)) _); done) | fail) z4; obtain ⟨r20, r21, r22, _, _, _⟩ := HG2.out _ (E2.trans f4); obtain ⟨r30, r31, r32, _, _, _⟩ := HG3.out _ (E3.trans f4); obtain ⟨r40, r41, r42, _, _, _⟩ := HG4.out _ (E4.trans f4); obtain ⟨r50, r51, r52, _, _, _⟩ := HG5.out _ (E5.trans f4); obtain ⟨r60, r61, r62, _, _, _⟩ := HG6.out _ (E6.trans f4))
            | (go_at_call 25; (with_reducible refine (cmp_e (HP5.out _ (E5.trans (by first | ((repeat first | assumption | exact Below.refl _ _ | refine ext_alloc ?_ _ | refine ext_drew ?_ | refine ext_set ?_ (by first | omega | (simp; done) | (simp; omega)) _); done) | fail))) (HP2.out _ (E2.trans (by first | ((repeat first | assumption | exact Below.refl _ _ | refine ext_alloc ?_ _ | refine ext_drew ?_ | refine ext_set ?_ (by first | omega | (simp; done) | (simp; omega)) _); done) | fail))) (by omega) HQJ.out).mono ?_); rintro _ s5 ⟨rfl, z5⟩; have f5 : Ext W6 s5 := Ext.trans (by first | ((repeat first | assumption | exact Below.refl _ _ | refine ext_alloc ?_ _ | refine ext_drew ?_ | refine ext_set ?_ (by first | omega | (simp; done) | (simp; omega)) _); done) | fail) z5; obtain ⟨r20, r21, r22, _, _, _⟩ := HG2.out _ (E2.trans f5); obtain ⟨r30, r31, r32, _, _, _⟩ := HG3.out _ (E3.trans f5); obtain ⟨r40, r41, r42, _, _, _⟩ := HG4.out _ (E4.trans f5); obtain ⟨r50, r51, r52, _, _, _⟩ := HG5.out _ (E5.trans f5); obtain ⟨r60, r61, r62, _, _, _⟩ := HG6.out _ (E6.trans f5))
            | (go_at_call 25; (with_reducible refine (cmp_e (HP3.out _ (E3.trans (by first | ((repeat first | assumption | exact Below.refl _ _ | refine ext_alloc ?_ _ | refine ext_drew ?_ | refine ext_set ?_ (by first | omega | (simp; done) | (simp; omega)) _); done) | fail))) (HP2.out _ (E2.trans (by first | ((repeat first | assumption | exact Below.refl _ _ | refine ext_alloc ?_ _ | refine ext_drew ?_ | refine ext_set ?_ (by first | omega | (simp; done) | (simp; omega)) _); done) | fail))) (by omega) HQG.out).mono ?_); rintro _ s3 ⟨rfl, z3⟩; have f3 : Ext W6 s3 := Ext.trans (by first | ((repeat first | assumption | exact Below.refl _ _ | refine ext_alloc ?_ _ | refine ext_drew ?_ | refine ext_set ?_ (by first | omega | (simp; done) | (simp; omega)) _); done) | fail) z3; obtain ⟨r20, r21, r22, _, _, _⟩ := HG2.out _ (E2.trans f3); obtain ⟨r30, r31, r32, _, _, _⟩ := HG3.out _ (E3.trans f3); obtain ⟨r40, r41, r42, _, _, _⟩ := HG4.out _ (E4.trans f3); obtain ⟨r50, r51, r52, _, _, _⟩ := HG5.out _ (E5.trans f3); obtain ⟨r60, r61, r62, _, _, _⟩ := HG6.out _ (E6.trans f3))
            | (go_at_call 37; (with_reducible refine (sign_e (HP6.out _ (E6.trans (by first | ((repeat first | assumption | exact Below.refl _ _ | refine ext_alloc ?_ _ | refine ext_drew ?_ | refine ext_set ?_ (by first | omega | (simp; done) | (simp; omega)) _); done) | fail))) HQK.out).mono ?_); rintro _ s6 ⟨rfl, z6⟩; have f6 : Ext W6 s6 := Ext.trans (by first | ((repeat first | assumption | exact Below.refl _ _ | refine ext_alloc ?_ _ | refine ext_drew ?_ | refine ext_set ?_ (by first | omega | (simp; done) | (simp; omega)) _); done) | fail) z6; obtain ⟨r20, r21, r22, _, _, _⟩ := HG2.out _ (E2.trans f6); obtain ⟨r30, r31, r32, _, _, _⟩ := HG3.out _ (E3.trans f6); obtain ⟨r40, r41, r42, _, _, _⟩ := HG4.out _ (E4.trans f6); obtain ⟨r50, r51, r52, _, _, _⟩ := HG5.out _ (E5.trans f6); obtain ⟨r60, r61, r62, _, _, _⟩ := HG6.out _ (E6.trans f6))))
        all_goals go_wp2
        all_goals go_ret
        all_goals exact ⟨rfl, V6.trans (by first | ((repeat first | assumption | exact Below.refl _ _ | refine ext_alloc ?_ _ | refine ext_drew ?_ | refine ext_set ?_ (by first | omega | (simp; done) | (simp; omega)) _); done) | fail)⟩

set_option maxHeartbeats 4000000 in
theorem law_EstimatorLeast {v : Value} {zs : List Int} {w : World} (hv : KInts .i64 w v zs) (ht : Tab10 w) :
    Calls Tryd.prog 11 #[v] w (fun e w' => e = .returned (.bool true) ∧ Ext w w') := by
  have hI := hv.ints
  obtain ⟨A, cc, rfl, _, _, _⟩ := id hI
  by_cases hl : zs.length ≤ 80
  · by_cases hs : Samp zs
    · have hc : zs.count 1 ≤ zs.length := List.count_le_length
      by_cases h0 : zs.count 1 = 0
      · exact law_ELeast_C hI ht hl hs h0
      · by_cases h1 : zs.count 1 = zs.length
        · exact law_ELeast_A hI ht hl hs h1
        · exact law_ELeast_B hI ht hl hs ⟨by omega, by omega⟩
    · have HS := Lib.hid hs
      have HI := Lib.hid (fun (w' : World) (h : Ext w w') => hI.below h)
      clear hv hI hs
      go_enter Tryd.func11, Tryd.ntmps11
      go_wp2_with (first
        | (go_at_call 12; (with_reducible refine (eawake ht).mono ?_); rintro e w0 ⟨rfl, x0⟩)
        | (go_at_call 13; (with_reducible refine (few_t hl).mono ?_); rintro e w0 ⟨rfl, rfl⟩)
        | (go_at_call 20; (with_reducible refine (ecov_no (HI.out _ x0) HS.out).mono ?_); rintro e w2 ⟨rfl, x2⟩))
      go_ret
      exact ⟨rfl, ext_alloc (x0.trans x2) _⟩
  · go_enter Tryd.func11, Tryd.ntmps11
    go_wp2_with (first
      | (go_at_call 12; (with_reducible refine (eawake ht).mono ?_); rintro e w1 ⟨rfl, x1⟩; have y1 : Ext w w1 := (by first | exact x1 | exact Ext.trans y1 x1); have ht := ht.ext x1)
      | (go_at_call 13; (with_reducible refine (few_f hl).mono ?_); rintro e w1' ⟨rfl, rfl⟩))
    go_ret
    exact ⟨rfl, y1⟩

end Go.Proofs.YtkjcbfaimonaoaaDoor
