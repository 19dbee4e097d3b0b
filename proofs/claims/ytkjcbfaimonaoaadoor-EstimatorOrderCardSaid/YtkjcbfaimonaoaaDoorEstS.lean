/- ref42: Good; Coverage and Good of both implementations at once. -/
import Derived.Test.YtkjcbfaimonaoaaDoorEstA
import Derived.Test.YtkjcbfaimonaoaaDoorRFracD
import Derived.Test.YtkjcbfaimonaoaaDoorEstC
set_option linter.unusedVariables false
set_option linter.unusedSimpArgs false
set_option maxRecDepth 100000
namespace Go.Proofs.YtkjcbfaimonaoaaDoor
open Go.RowKit Num

theorem fb_i64 {n d : Int} (hn : -9223372036854775808 ≤ n ∧ n ≤ 9223372036854775807) (hd : -9223372036854775808 ≤ d ∧ d ≤ 9223372036854775807) : FB ((n : Rat) / (d : Rat)) 3 := by
  rw [← frac_of]
  exact frac_fb (limbs_i64 hn) (limbs_i64 hd) (by decide)
theorem cov_zero {a s : Int} (hs : s ≠ 0) : ((a : Rat) / (s : Rat) = 0) ↔ a = 0 := by
  have hs' : (s : Rat) ≠ 0 := by exact_mod_cast hs
  constructor
  · intro h
    have h1 := Rat.div_mul_cancel (a := (a : Rat)) hs'
    rw [h, Rat.zero_mul] at h1
    exact_mod_cast h1.symm
  · intro h; subst h; rw [Rat.div_def]; exact Rat.zero_mul _
theorem fb_zero : FB 0 3 := by
  refine ⟨?_, ?_⟩
  · show (limbsOf 0).length ≤ 3; rw [limbsOf_zero]; simp
  · show (limbsOf 1).length ≤ 3; rw [limbsOf_one (by omega) (by omega)]; simp
theorem good_val {l s a : Int} (hs : s ≠ 0) (ha : a ≠ 0) : ((l : Rat) / ((1 : Int) : Rat)) / ((a : Rat) / (s : Rat)) = ((l * s : Int) : Rat) / (a : Rat) := by
  have hs' : (s : Rat) ≠ 0 := by exact_mod_cast hs
  have ha' : (a : Rat) ≠ 0 := by exact_mod_cast ha
  rw [Rat.intCast_mul]
  simp only [Rat.div_def, Rat.intCast_one]
  grind

set_option maxHeartbeats 2000000 in
theorem rgood_no {zs : List Int} {x : Value} {w : World} (hx : IntsV w x zs) (hs : ¬ Samp zs) : Calls Tryd.prog 23 #[x] w (GivesFN w 1) := by
  go_enter Tryd.func23, Tryd.ntmps23
  go_upto_region 1 with (fail)
  have hF0 := FBox.new w (.bool false) (.slice none 0 0) (.slice none 0 0) 32
  have x0 : Ext w (w.alloc (.cells #[.bool false, .slice none 0 0, .slice none 0 0] 32)) := ext_alloc (Below.refl _ _) _
  have hs0 : w.heap.size + 1 ≤ (w.alloc (.cells #[.bool false, .slice none 0 0, .slice none 0 0] 32)).heap.size := by simp
  generalize w.alloc (.cells #[.bool false, .slice none 0 0, .slice none 0 0] 32) = W0 at *
  have HF := Lib.hid (fun (w' : World) (h : Ext W0 w') => hF0.below h)
  have HE := Lib.hid x0
  have f0 : Ext W0 W0 := Below.refl _ _
  obtain ⟨r0, r1, r2, g0, g1, g2⟩ := hF0
  clear x0
  have HX := Lib.hid (hx.below HE.out)
  clear hx
  go_upto_region 2 with (go_at_call 21; (with_reducible refine (rcov_no HX.out hs).mono ?_); rintro e w1 ⟨rfl, x1⟩)
  have y1 : Ext W0 (w1.alloc (.cells #[.bool false, .slice none 0 0, .slice none 0 0] 32)) := ext_alloc x1 _
  generalize w1.alloc (.cells #[.bool false, .slice none 0 0, .slice none 0 0] 32) = W1 at *
  obtain ⟨r0, r1, r2, g0, g1, g2⟩ := HF.out _ y1
  go_wp2
  obtain ⟨q0, q1, q2⟩ := set3 r0 r1 r2 (.bool false) (.slice none 0 0) (.slice none 0 0)
  refine bodyPost_ret (v := .tuple #[.agg #[.bool false, .slice none 0 0, .slice none 0 0], .int .i64 1]) (by simp [results, Tryd.results23, go_sem, q0, q1, q2]) rfl ?_
  exact ⟨rfl, ext_put (HE.out.trans y1) (Nat.le_refl _) _ _ _⟩

set_option maxHeartbeats 4000000 in
theorem rgood_ok {zs : List Int} {x : Value} {w : World} (hx : IntsV w x zs) (hs : Samp zs) (hne : zs.sum ≠ (zs.count 1 : Int)) :
    Calls Tryd.prog 23 #[x] w (GivesFE w ((((zs.length : Int) * zs.sum : Int) : Rat) / ((zs.sum - (zs.count 1 : Int) : Int) : Rat))) := by
  have hB9 : (1 : Int) ≤ zs.sum ∧ zs.sum ≤ 64 := by
    have := sumUp_le (Nat.le_refl _) hs.2.1
    rw [sumUp_all] at this
    have := hs.1
    exact ⟨by omega, hs.2.2⟩
  have hL9 := hs.1
  have hO9 : zs.count 1 ≤ 64 := Nat.le_trans List.count_le_length hL9.2
  have hcne : ((zs.sum - (zs.count 1 : Int) : Int) : Rat) / (zs.sum : Rat) ≠ 0 := fun h => by
    have := (cov_zero (by omega)).1 h
    omega
  rw [← good_val (by omega) (by omega)]
  have HS := Lib.hid hs
  have HV := Lib.hid hcne
  have HFB := Lib.hid (show FB (((zs.sum - (zs.count 1 : Int) : Int) : Rat) / (zs.sum : Rat)) 3 from fb_i64 (by omega) (by omega))
  have HFL := Lib.hid (show FB (((zs.length : Int) : Rat) / ((1 : Int) : Rat)) 3 from fb_i64 (by omega) (by omega))
  have HLN := Lib.hid (show -9223372036854775808 ≤ (zs.length : Int) ∧ (zs.length : Int) ≤ 9223372036854775807 from by omega)
  obtain ⟨cv, hcv⟩ : ∃ q : Rat, q = ((zs.sum - (zs.count 1 : Int) : Int) : Rat) / (zs.sum : Rat) := ⟨_, rfl⟩
  obtain ⟨lv, hlv⟩ : ∃ q : Rat, q = ((zs.length : Int) : Rat) / ((1 : Int) : Rat) := ⟨_, rfl⟩
  rw [← hcv] at HV HFB
  rw [← hlv] at HFL
  rw [← hcv, ← hlv]
  have HCV := Lib.hid hcv
  have HLV := Lib.hid hlv
  obtain ⟨A, c, rfl, _, _, _⟩ := id hx
  clear hne hcne hs hcv hlv
  go_enter Tryd.func23, Tryd.ntmps23
  go_upto_region 1 with (fail)
  have hF0 := FBox.new w (.bool false) (.slice none 0 0) (.slice none 0 0) 32
  have x0 : Ext w (w.alloc (.cells #[.bool false, .slice none 0 0, .slice none 0 0] 32)) := ext_alloc (Below.refl _ _) _
  have hs0 : w.heap.size + 1 ≤ (w.alloc (.cells #[.bool false, .slice none 0 0, .slice none 0 0] 32)).heap.size := by simp
  generalize w.alloc (.cells #[.bool false, .slice none 0 0, .slice none 0 0] 32) = W0 at *
  have HF := Lib.hid (fun (w' : World) (h : Ext W0 w') => hF0.below h)
  have HE := Lib.hid x0
  have f0 : Ext W0 W0 := Below.refl _ _
  obtain ⟨r0, r1, r2, g0, g1, g2⟩ := hF0
  clear x0
  have HX := Lib.hid (hx.below HE.out)
  clear hx
  go_upto_region 2 with (go_at_call 21; (with_reducible refine (rcov_ok HX.out HS.out).mono ?_); rintro e w1 ⟨b1, A1, k1, c1, A1', k1', c1', rfl, h1, y1, n1, n1'⟩)
  rw [← HCV.out] at h1
  clear n1 n1'
  have hb1 : w.heap.size + 1 ≤ w1.heap.size := by have := y1.size; omega
  have hG1 := FBox.new w1 (.bool b1) (.slice A1 k1 c1) (.slice A1' k1' c1') 32
  have Y1 : Ext W0 (w1.alloc (.cells #[.bool b1, .slice A1 k1 c1, .slice A1' k1' c1'] 32)) := ext_alloc y1 _
  have h1 := h1.below (ext_alloc (Below.refl _ _) (.cells #[.bool b1, .slice A1 k1 c1, .slice A1' k1' c1'] 32))
  have hsz1 : w1.heap.size < (w1.alloc (.cells #[.bool b1, .slice A1 k1 c1, .slice A1' k1' c1'] 32)).heap.size := by simp
  generalize w1.alloc (.cells #[.bool b1, .slice A1 k1 c1, .slice A1' k1' c1'] 32) = W1 at *
  generalize w1.heap.size = B1 at *
  have HCA := Lib.hid (fun (w' : World) (h : Ext W1 w') (x y z : Value) => (fun (k : FBox _ _ _ _ _) => (⟨k.1, k.2.1, k.2.2.1⟩ : _ ∧ _ ∧ _)) (FBox.away (b' := w.heap.size) (hG1.below h) (by omega) x y z))
  have HC := Lib.hid (fun (w' : World) (h : Ext W1 w') => (⟨(hG1.below h).1, (hG1.below h).2.1, (hG1.below h).2.2.1⟩ : w'.cell? ⟨B1, 0, none⟩ = some (.bool b1) ∧ w'.cell? ⟨B1, 1, none⟩ = some (.slice A1 k1 c1) ∧ w'.cell? ⟨B1, 2, none⟩ = some (.slice A1' k1' c1')))
  have HY := Lib.hid (fun (w' : World) (h : Ext W1 w') => (h1.any HFB.out (by omega)).below h)
  have e1 : Ext W1 W1 := Below.refl _ _
  clear hG1 y1 h1
  go_upto_region 4 with (fail)
  go_region_held3 (fun w' => w'.cell? ⟨B1, 0, none⟩ = some (.bool b1) ∧ w'.cell? ⟨B1, 1, none⟩ = some (.slice A1 k1 c1) ∧ w'.cell? ⟨B1, 2, none⟩ = some (.slice A1' k1' c1')) (first | exact HCA.out _ f3 _ _ _ | exact HC.out _ (by repeat first | assumption | exact Below.refl _ _ | refine ext_alloc ?_ _ | refine ext_drew ?_ | refine ext_set ?_ (by first | omega | (simp; done) | (simp; omega)) _))
    (first
      | (go_at_call 42; (with_reducible refine (rfof_n HLN.out (by omega)).mono ?_); rintro e s2 ⟨b2, A2, k2, c2, B2, l2, d2, rfl, h2, z2, _⟩; have f2 : Ext W1 s2 := Ext.trans (by repeat first | assumption | exact Below.refl _ _ | refine ext_alloc ?_ _ | refine ext_drew ?_ | refine ext_set ?_ (by first | omega | (simp; done) | (simp; omega)) _) z2)
      | (go_at_call 46; (with_reducible refine (rdiv_ok (FracV.any (L := 3) h2 (by have := HFL.out; rw [HLV.out] at this; exact this) (by omega)) (HY.out _ (by repeat first | assumption | exact Below.refl _ _ | refine ext_alloc ?_ _ | refine ext_drew ?_ | refine ext_set ?_ (by first | omega | (simp; done) | (simp; omega)) _)) HFB.out (by omega) HV.out).mono ?_); rintro e s3 ⟨b3, A3, k3, c3, B3, l3, d3, rfl, h3, z3, n3, m3⟩; have f3 : Ext W1 s3 := Ext.trans (by repeat first | assumption | exact Below.refl _ _ | refine ext_alloc ?_ _ | refine ext_drew ?_ | refine ext_set ?_ (by first | omega | (simp; done) | (simp; omega)) _) z3; obtain ⟨r0, r1, r2, g0, g1, g2⟩ := HF.out _ (Y1.trans f3)))
  all_goals go_wp2
  all_goals
    obtain ⟨q0, q1, q2⟩ := set3 r0 r1 r2 (.bool b3) (.slice A3 k3 c3) (.slice B3 l3 d3)
    refine bodyPost_ret (v := .tuple #[.agg #[.bool b3, .slice A3 k3 c3, .slice B3 l3 d3], .int .i64 0]) (by simp [results, Tryd.results23, go_sem, q0, q1, q2]) rfl ?_
    exact GivesFE.box (HE.out.trans (Y1.trans f3)) (by rw [HLV.out]; exact h3) (n3.mono (by have := Y1.size; have := f2.size; omega)) (m3.mono (by have := Y1.size; have := f2.size; omega)) (Nat.le_refl _)

set_option maxHeartbeats 4000000 in
theorem rgood_z {zs : List Int} {x : Value} {w : World} (hx : IntsV w x zs) (hs : Samp zs) (hne : zs.sum = (zs.count 1 : Int)) :
    Calls Tryd.prog 23 #[x] w (GivesFN w 12) := by
  have hB9 : (1 : Int) ≤ zs.sum ∧ zs.sum ≤ 64 := by
    have := sumUp_le (Nat.le_refl _) hs.2.1
    rw [sumUp_all] at this
    have := hs.1
    exact ⟨by omega, hs.2.2⟩
  have hL9 := hs.1
  have hO9 : zs.count 1 ≤ 64 := Nat.le_trans List.count_le_length hL9.2
  have hcv : ((zs.sum - (zs.count 1 : Int) : Int) : Rat) / (zs.sum : Rat) = 0 := (cov_zero (by omega)).2 (by omega)
  have HS := Lib.hid hs
  have HCV := Lib.hid hcv
  have HLN := Lib.hid (show -9223372036854775808 ≤ (zs.length : Int) ∧ (zs.length : Int) ≤ 9223372036854775807 from by omega)
  obtain ⟨A, c, rfl, _, _, _⟩ := id hx
  clear hne hs hcv
  go_enter Tryd.func23, Tryd.ntmps23
  go_upto_region 1 with (fail)
  have hF0 := FBox.new w (.bool false) (.slice none 0 0) (.slice none 0 0) 32
  have x0 : Ext w (w.alloc (.cells #[.bool false, .slice none 0 0, .slice none 0 0] 32)) := ext_alloc (Below.refl _ _) _
  have hs0 : w.heap.size + 1 ≤ (w.alloc (.cells #[.bool false, .slice none 0 0, .slice none 0 0] 32)).heap.size := by simp
  generalize w.alloc (.cells #[.bool false, .slice none 0 0, .slice none 0 0] 32) = W0 at *
  have HF := Lib.hid (fun (w' : World) (h : Ext W0 w') => hF0.below h)
  have HE := Lib.hid x0
  have f0 : Ext W0 W0 := Below.refl _ _
  obtain ⟨r0, r1, r2, g0, g1, g2⟩ := hF0
  clear x0
  have HX := Lib.hid (hx.below HE.out)
  clear hx
  go_upto_region 2 with (go_at_call 21; (with_reducible refine (rcov_ok HX.out HS.out).mono ?_); rintro e w1 ⟨b1, A1, k1, c1, A1', k1', c1', rfl, h1, y1, n1, n1'⟩)
  rw [HCV.out] at h1
  clear n1 n1'
  have hb1 : w.heap.size + 1 ≤ w1.heap.size := by have := y1.size; omega
  have hG1 := FBox.new w1 (.bool b1) (.slice A1 k1 c1) (.slice A1' k1' c1') 32
  have Y1 : Ext W0 (w1.alloc (.cells #[.bool b1, .slice A1 k1 c1, .slice A1' k1' c1'] 32)) := ext_alloc y1 _
  have h1 := h1.below (ext_alloc (Below.refl _ _) (.cells #[.bool b1, .slice A1 k1 c1, .slice A1' k1' c1'] 32))
  have hsz1 : w1.heap.size < (w1.alloc (.cells #[.bool b1, .slice A1 k1 c1, .slice A1' k1' c1'] 32)).heap.size := by simp
  generalize w1.alloc (.cells #[.bool b1, .slice A1 k1 c1, .slice A1' k1' c1'] 32) = W1 at *
  generalize w1.heap.size = B1 at *
  have HCA := Lib.hid (fun (w' : World) (h : Ext W1 w') (x y z : Value) => (fun (k : FBox _ _ _ _ _) => (⟨k.1, k.2.1, k.2.2.1⟩ : _ ∧ _ ∧ _)) (FBox.away (b' := w.heap.size) (hG1.below h) (by omega) x y z))
  have HC := Lib.hid (fun (w' : World) (h : Ext W1 w') => (⟨(hG1.below h).1, (hG1.below h).2.1, (hG1.below h).2.2.1⟩ : w'.cell? ⟨B1, 0, none⟩ = some (.bool b1) ∧ w'.cell? ⟨B1, 1, none⟩ = some (.slice A1 k1 c1) ∧ w'.cell? ⟨B1, 2, none⟩ = some (.slice A1' k1' c1')))
  have HY := Lib.hid (fun (w' : World) (h : Ext W1 w') => (h1.any (L := 3) fb_zero (by omega)).below h)
  have e1 : Ext W1 W1 := Below.refl _ _
  clear hG1 y1 h1
  go_upto_region 4 with (fail)
  go_region_held3 (fun w' => w'.cell? ⟨B1, 0, none⟩ = some (.bool b1) ∧ w'.cell? ⟨B1, 1, none⟩ = some (.slice A1 k1 c1) ∧ w'.cell? ⟨B1, 2, none⟩ = some (.slice A1' k1' c1')) (first | exact HCA.out _ f3 _ _ _ | exact HC.out _ (by repeat first | assumption | exact Below.refl _ _ | refine ext_alloc ?_ _ | refine ext_drew ?_ | refine ext_set ?_ (by first | omega | (simp; done) | (simp; omega)) _))
    (first
      | (go_at_call 42; (with_reducible refine (rfof_n HLN.out (by omega)).mono ?_); rintro e s2 ⟨b2, A2, k2, c2, B2, l2, d2, rfl, h2, z2, _⟩; have f2 : Ext W1 s2 := Ext.trans (by repeat first | assumption | exact Below.refl _ _ | refine ext_alloc ?_ _ | refine ext_drew ?_ | refine ext_set ?_ (by first | omega | (simp; done) | (simp; omega)) _) z2)
      | (go_at_call 46; (with_reducible refine (rdiv_no (HY.out _ (by repeat first | assumption | exact Below.refl _ _ | refine ext_alloc ?_ _ | refine ext_drew ?_ | refine ext_set ?_ (by first | omega | (simp; done) | (simp; omega)) _)) (by omega) rfl).mono ?_); rintro e s3 ⟨rfl, z3⟩; have f3 : Ext W1 s3 := Ext.trans (by repeat first | assumption | exact Below.refl _ _ | refine ext_alloc ?_ _ | refine ext_drew ?_ | refine ext_set ?_ (by first | omega | (simp; done) | (simp; omega)) _) z3; obtain ⟨r0, r1, r2, g0, g1, g2⟩ := HF.out _ (Y1.trans f3)))
  all_goals go_wp2
  all_goals
    obtain ⟨q0, q1, q2⟩ := set3 r0 r1 r2 (.bool false) (.slice none 0 0) (.slice none 0 0)
    refine bodyPost_ret (v := .tuple #[.agg #[.bool false, .slice none 0 0, .slice none 0 0], .int .i64 12]) (by simp [results, Tryd.results23, go_sem, q0, q1, q2]) rfl ?_
    exact ⟨rfl, ext_put (HE.out.trans (Y1.trans f3)) (Nat.le_refl _) _ _ _⟩

theorem cov_any (zs : List Int) : ∃ b n d er, ∀ x w, IntsV w x zs → Calls Tryd.prog 20 #[x] w (GivesP w b n d er) ∧ Calls Tryd.prog 21 #[x] w (GivesP w b n d er) := by
  by_cases hs : Samp zs
  · exact ⟨_, _, _, _, fun x w hx => ⟨(ecov_ok hx hs).mono fun _ _ h => h.p, (rcov_ok hx hs).mono fun _ _ h => h.p⟩⟩
  · exact ⟨_, _, _, _, fun x w hx => ⟨(ecov_no hx hs).mono fun _ _ h => h.p, (rcov_no hx hs).mono fun _ _ h => h.p⟩⟩
theorem good_any (zs : List Int) : ∃ b n d er, ∀ x w, IntsV w x zs → Calls Tryd.prog 22 #[x] w (GivesP w b n d er) ∧ Calls Tryd.prog 23 #[x] w (GivesP w b n d er) := by
  by_cases hs : Samp zs
  · by_cases hz : zs.sum = (zs.count 1 : Int)
    · exact ⟨_, _, _, _, fun x w hx => ⟨(egood_z hx hs hz).mono fun _ _ h => h.p, (rgood_z hx hs hz).mono fun _ _ h => h.p⟩⟩
    · exact ⟨_, _, _, _, fun x w hx => ⟨(egood_ok hx hs hz).mono fun _ _ h => h.p, (rgood_ok hx hs hz).mono fun _ _ h => h.p⟩⟩
  · exact ⟨_, _, _, _, fun x w hx => ⟨(egood_no hx hs).mono fun _ _ h => h.p, (rgood_no hx hs).mono fun _ _ h => h.p⟩⟩

end Go.Proofs.YtkjcbfaimonaoaaDoor
