/- The walk of EstimatorDoubled. -/
import Derived.Test.YtkjcbfaimonaoaaDoorEstQ
import Derived.Test.YtkjcbfaimonaoaaDoorLwESums
set_option linter.unusedVariables false
set_option linter.unusedSimpArgs false
set_option maxRecDepth 100000
namespace Go.Proofs.YtkjcbfaimonaoaaDoor
open Go.RowKit Num

/-- Every element doubled. -/
def dbl (zs : List Int) : List Int := zs.map fun z => 2 * z
theorem dbl_length (zs : List Int) : (dbl zs).length = zs.length := by simp [dbl]
theorem dbl_sum : ∀ zs : List Int, (dbl zs).sum = 2 * zs.sum
  | [] => rfl
  | a :: l => by
    have := dbl_sum l
    unfold dbl at *
    rw [List.map_cons, List.sum_cons, List.sum_cons, this]
    omega
theorem dbl_count (zs : List Int) : (dbl zs).count 1 = 0 := by
  rw [List.count_eq_zero]
  intro h
  obtain ⟨z, _, e⟩ := List.mem_map.1 h
  omega
theorem dbl_take {zs : List Int} {k : Nat} (h : k < zs.length) : dbl (zs.take k) ++ [2 * zs.getD k 0] = dbl (zs.take (k + 1)) := by
  rw [take_snoc h]
  simp [dbl]
theorem sum_ge : ∀ {zs : List Int}, (∀ z ∈ zs, 1 ≤ z) → (zs.length : Int) ≤ zs.sum
  | [], _ => by simp
  | a :: l, h => by
    have := sum_ge (zs := l) fun z hz => h z (by simp [hz])
    have := h a (by simp)
    rw [List.sum_cons, List.length_cons]
    omega
theorem dbl_samp {zs : List Int} (h : ∀ j, j < zs.length → 1 ≤ zs.getD j 0 ∧ zs.getD j 0 ≤ 32) (h1 : zs.sum ≤ 32) (h0 : zs.sum ≠ 0) : Samp (dbl zs) := by
  have hm : ∀ z ∈ zs, 1 ≤ z ∧ z ≤ 32 := fun z hz => by
    obtain ⟨j, hj, rfl⟩ := List.getElem_of_mem hz
    have := h j hj
    rwa [List.getD_eq_getElem?_getD, List.getElem?_eq_getElem hj] at this
  have hg := sum_ge (zs := zs) fun z hz => (hm z hz).1
  have hl : 1 ≤ zs.length := by
    rcases Nat.eq_zero_or_pos zs.length with e | e
    · rw [List.eq_nil_of_length_eq_zero e] at h0; exact absurd rfl h0
    · exact e
  rw [Samp.iff, dbl_length, dbl_sum]
  refine ⟨⟨hl, by omega⟩, fun z hz => ?_, by omega⟩
  obtain ⟨y, hy, rfl⟩ := List.mem_map.1 hz
  have := hm y hy
  exact ⟨by omega, by omega⟩

theorem dbl_cov {zs : List Int} (hs : Samp (dbl zs)) {x : Value} {w : World} (hx : IntsV w x (dbl zs)) : Calls Tryd.prog 20 #[x] w (GivesFE w (((1 : Int) : Rat) / ((1 : Int) : Rat))) := by
  have h := ecov_ok hx hs
  have hf := hs.facts
  rw [dbl_count, show (dbl zs).sum - ((0 : Nat) : Int) = (dbl zs).sum from by omega, quot_one (by omega)] at h
  exact h
theorem dbl_good {zs : List Int} (hs : Samp (dbl zs)) {x : Value} {w : World} (hx : IntsV w x (dbl zs)) : Calls Tryd.prog 22 #[x] w (GivesFE w (((zs.length : Int) : Rat) / ((1 : Int) : Rat))) := by
  have hf := hs.facts
  have hc := dbl_count zs
  have hsn : seen (dbl zs) 1 = 0 := hc
  have h := egood_ok hx hs (by rw [hsn]; omega)
  rw [hsn, show (dbl zs).sum - ((0 : Nat) : Int) = (dbl zs).sum from by omega, dbl_length, Rat.intCast_mul] at h
  have hs' : ((dbl zs).sum : Rat) ≠ 0 := by exact_mod_cast (show (dbl zs).sum ≠ 0 from by omega)
  rw [show ((zs.length : Int) : Rat) * ((dbl zs).sum : Rat) / ((dbl zs).sum : Rat) = ((zs.length : Int) : Rat) / ((1 : Int) : Rat) from by simp only [Rat.intCast_one, Rat.div_def]; grind] at h
  exact h

set_option maxHeartbeats 8000000 in
theorem law_EstimatorDoubled {v : Value} {zs : List Int} {w : World} (hv : KInts .i64 w v zs) (ht : Tab10 w) :
    Calls Tryd.prog 5 #[v] w (fun e w' => e = .returned (.bool true) ∧ Ext w w') := by
  obtain ⟨i0, hi, hz0, hz1, hz2⟩ := info_parts info_int
  have hI := hv.ints
  obtain ⟨A, cc, rfl, _, _, _⟩ := id hI
  by_cases hl : zs.length ≤ 80
  · have HI := Lib.hid (fun (w' : World) (h : Ext w w') => hI.below h)
    clear hv hI
    go_enter Tryd.func5, Tryd.ntmps5
    go_wp2_with (first
      | (go_at_call 12; (with_reducible refine (eawake ht).mono ?_); rintro e W1 ⟨rfl, V0⟩)
      | (go_at_call 13; (with_reducible refine (few_t hl).mono ?_); rintro e W1 ⟨rfl, rfl⟩))
    go_loopw [3, 4, 5] (fun sv ov kv wr => ∃ k : Nat, k ≤ zs.length ∧ kv = .int .i64 k ∧ sv = .int .i64 (sumUp zs k) ∧ wr.ownsRow W1.heap.size 3 1 ov k (i64l (dbl (zs.take k))) ∧ (∀ j, j < k → 1 ≤ zs.getD j 0 ∧ zs.getD j 0 ≤ 32) ∧ Ext W1 wr) (fun _ _ kv _ => zs.length - (intOf kv).toNat)
    case atStart => exact ⟨0, Nat.zero_le _, rfl, by rw [sumUp_zero], World.ownsRow_nil _ _ _ _, fun j hj => by omega, Below.refl _ _⟩
    case round =>
      obtain ⟨k, hk, rfl, rfl, hown, hin, hE⟩ := hrel
      obtain ⟨OA, OC, rfl, ho1, ho2⟩ := own_slice hown
      by_cases hkm : k < zs.length
      · obtain ⟨ad, rfl, hb, hc⟩ := (HI.out _ (V0.trans hE)).at_ hkm
        by_cases hz : 1 ≤ zs.getD k 0 ∧ zs.getD k 0 ≤ 32
        · have HS := Lib.hid (sumUp_succ hkm)
          have hle := sumUp_le (zs := zs) hk fun j hj => ⟨(hin j hj).1, by have := (hin j hj).2; omega⟩
          have HIN := Lib.hid (show ∀ j, j < k + 1 → 1 ≤ zs.getD j 0 ∧ zs.getD j 0 ≤ 32 from fun j hj => by
            rcases Nat.lt_or_ge j k with h | h
            · exact hin j h
            · rw [show j = k from by omega]; exact hz)
          have HOWN := Lib.hid hown
          have HT := Lib.hid (dbl_take hkm)
          clear hown hin
          generalize zs.getD k 0 = z at *
          generalize sumUp zs k = q at *
          have hw1 : IntKind.i64.wrap (q + z) = q + z := wrap_in (by omega)
          have hw2 : IntKind.i64.wrap (2 * z) = 2 * z := wrap_in (by omega)
          have HWR := Lib.hid hE
          go_wp2_with (first
            | (go_at_call 24; (with_reducible refine (bin_t hz).mono ?_); rintro e w2 ⟨rfl, rfl⟩)
            | (at_builtin; refine wpList_append_mine _ (by rfl) (.tmp 36) (.tmp 42) 22 (by rfl) W1.heap.size 3 i0 (.int .i64 0) 1 8 Tryd.underlying22 hi hz0 hz1 hz2 rfl (by omega) _ _ _ (by rfl) (World.ownsRow.kept HOWN.out (Ext.grown (ext_alloc (Below.refl _ _) _)) (by cases OA <;> simp [Value.ownBlock])) ⟨w2.heap.size, 0, none⟩ 1 1 [.int .i64 (2 * z)] (by rfl) rfl (cell_one w2 _ _) (by simp [Value.oneCell']) (by unfold maxLen; omega) (by omega) (by have := HWR.out.size; simp; omega) ?_
               intro v8 w8 ho8 hg8 hw8))
          all_goals go_roundw
          all_goals first
            | (rw [i64l_snoc, HT.out] at ho8
               exact ⟨k + 1, by omega, by go_num, by rw [HS.out], ho8, HIN.out, Below.grown (ext_alloc HWR.out _) hg8 (by have := HWR.out.size; simp; omega) (fun b hb => (HOWN.out.lt b hb).1)⟩)
            | (simp [intOf]; omega)
        · clear hown hin
          generalize zs.getD k 0 = z at *
          go_wp2_with (go_at_call 24; (with_reducible refine (bin_f hz).mono ?_); rintro e w2 ⟨rfl, rfl⟩)
          go_ret
          exact ⟨rfl, V0.trans hE⟩
      · have hke : k = zs.length := by omega
        subst hke
        rw [sumUp_all, List.take_length] at *
        by_cases hs1 : 32 < zs.sum
        · clear hown hin
          go_wp2
          go_ret
          exact ⟨rfl, V0.trans hE⟩
        · by_cases hs0 : zs.sum = 0
          · rw [hs0]
            clear hown hin hs1 hs0
            go_wp2
            go_ret
            exact ⟨rfl, V0.trans hE⟩
          · have hsm := dbl_samp hin (by omega) hs0
            have hb0 : (zs.sum == 0) = false := beq_eq_false_iff_ne.2 hs0
            have HSM := Lib.hid hsm
            have hIv : IntsV wr (.slice OA zs.length OC) (dbl zs) := IntsV.of_own hown
            have HIV := Lib.hid (fun (w' : World) (h : Ext wr w') => hIv.below h)
            have HN := Lib.hid (show (-9223372036854775808 ≤ (zs.length : Int) ∧ (zs.length : Int) ≤ 9223372036854775807) from by omega)
            have HF1 := Lib.hid (fb_i64 (n := 1) (d := 1) (by omega) (by omega))
            have HFL := Lib.hid (fb_i64 (n := (zs.length : Int)) (d := 1) (by omega) (by omega))
            have HC1 := Lib.hid ((cmpQ_zero (((1 : Int) : Rat) / ((1 : Int) : Rat)) _).2 rfl)
            have HC2 := Lib.hid ((cmpQ_zero (((zs.length : Int) : Rat) / ((1 : Int) : Rat)) _).2 rfl)
            have V1 := V0.trans hE
            clear hown hin hsm hIv hs0
            go_wp2_with fail
            refine (dbl_cov HSM.out (HIV.out _ (Below.refl _ _))).mono ?_
            rintro e w1 ⟨b1, A1, k1, c1, A1', k1', c1', rfl, h1, y1, n1, n1'⟩
            clear n1 n1'
            go_upto_region 15 with (fail)
            have hG1 := FBox.new w1 (.bool b1) (.slice A1 k1 c1) (.slice A1' k1' c1') 32
            have Y1 : Ext wr (w1.alloc (.cells #[.bool b1, .slice A1 k1 c1, .slice A1' k1' c1'] 32)) := ext_alloc y1 _
            have h1 := h1.below (ext_alloc (Below.refl _ _) (.cells #[.bool b1, .slice A1 k1 c1, .slice A1' k1' c1'] 32))
            have hsz1 : w1.heap.size < (w1.alloc (.cells #[.bool b1, .slice A1 k1 c1, .slice A1' k1' c1'] 32)).heap.size := by simp
            generalize w1.alloc (.cells #[.bool b1, .slice A1 k1 c1, .slice A1' k1' c1'] 32) = W1 at *
            generalize w1.heap.size = B1 at *
            have HG1 := Lib.hid (fun (w' : World) (h : Ext W1 w') => hG1.below h)
            have HP1 := Lib.hid (fun (w' : World) (h : Ext W1 w') => FracV.any (L := 3) (h1.below h) HF1.out (by omega))
            clear hG1 h1 y1 hsz1
            go_wp2_with fail
            refine (dbl_good HSM.out (HIV.out _ Y1)).mono ?_
            rintro e w2 ⟨b2, A2, k2, c2, A2', k2', c2', rfl, h2, y2, n2, n2'⟩
            clear n2 n2'
            go_upto_region 16 with (fail)
            have hG2 := FBox.new w2 (.bool b2) (.slice A2 k2 c2) (.slice A2' k2' c2') 32
            have Y2 : Ext W1 (w2.alloc (.cells #[.bool b2, .slice A2 k2 c2, .slice A2' k2' c2'] 32)) := ext_alloc y2 _
            have h2 := h2.below (ext_alloc (Below.refl _ _) (.cells #[.bool b2, .slice A2 k2 c2, .slice A2' k2' c2'] 32))
            have hsz2 : w2.heap.size < (w2.alloc (.cells #[.bool b2, .slice A2 k2 c2, .slice A2' k2' c2'] 32)).heap.size := by simp
            generalize w2.alloc (.cells #[.bool b2, .slice A2 k2 c2, .slice A2' k2' c2'] 32) = W2 at *
            generalize w2.heap.size = B2 at *
            have HG2 := Lib.hid (fun (w' : World) (h : Ext W2 w') => hG2.below h)
            have HP2 := Lib.hid (fun (w' : World) (h : Ext W2 w') => FracV.any (L := 3) (h2.below h) HFL.out (by omega))
            clear hG2 h2 y2 hsz2
            have HC := Lib.hid (fun (w' : World) (h : Ext W2 w') => (⟨(HG1.out _ (Y2.trans h)).1, (HG1.out _ (Y2.trans h)).2.1, (HG1.out _ (Y2.trans h)).2.2.1, (HG2.out _ h).1, (HG2.out _ h).2.1, (HG2.out _ h).2.2.1⟩ : w'.cell? ⟨B1, 0, none⟩ = some (.bool b1) ∧ w'.cell? ⟨B1, 1, none⟩ = some (.slice A1 k1 c1) ∧ w'.cell? ⟨B1, 2, none⟩ = some (.slice A1' k1' c1') ∧ w'.cell? ⟨B2, 0, none⟩ = some (.bool b2) ∧ w'.cell? ⟨B2, 1, none⟩ = some (.slice A2 k2 c2) ∧ w'.cell? ⟨B2, 2, none⟩ = some (.slice A2' k2' c2')))
            obtain ⟨r10, r11, r12, r20, r21, r22⟩ := HC.out _ (Below.refl _ _)
            have g0 : Ext W2 W2 := Below.refl _ _
            go_region_held3 (fun w' => w'.cell? ⟨B1, 0, none⟩ = some (.bool b1) ∧ w'.cell? ⟨B1, 1, none⟩ = some (.slice A1 k1 c1) ∧ w'.cell? ⟨B1, 2, none⟩ = some (.slice A1' k1' c1') ∧ w'.cell? ⟨B2, 0, none⟩ = some (.bool b2) ∧ w'.cell? ⟨B2, 1, none⟩ = some (.slice A2 k2 c2) ∧ w'.cell? ⟨B2, 2, none⟩ = some (.slice A2' k2' c2')) (exact HC.out _ (by first | ((repeat first | assumption | exact Below.refl _ _ | refine ext_alloc ?_ _ | refine ext_drew ?_ | refine ext_set ?_ (by first | omega | (simp; done) | (simp; omega)) _); done) | fail))
              (first
                | (go_at_call 26; (with_reducible refine (fof_n (n := 1) (d := 1) (by omega) (by omega)).mono ?_); rintro _ s2 ⟨bo, Ao, ko, lo, Bo, mo, no, rfl, ho, z2, _⟩; have g2 : Ext W2 s2 := Ext.trans (by first | ((repeat first | assumption | exact Below.refl _ _ | refine ext_alloc ?_ _ | refine ext_drew ?_ | refine ext_set ?_ (by first | omega | (simp; done) | (simp; omega)) _); done) | fail) z2; have HO := Lib.hid (fun (w' : World) (h : Ext s2 w') => FracV.any (L := 3) (ho.below h) HF1.out (by omega)))
                | (go_at_call 25; (with_reducible refine (cmp_e (HP1.out _ (Y2.trans (by first | ((repeat first | assumption | exact Below.refl _ _ | refine ext_alloc ?_ _ | refine ext_drew ?_ | refine ext_set ?_ (by first | omega | (simp; done) | (simp; omega)) _); done) | fail))) (HO.out _ (by first | ((repeat first | assumption | exact Below.refl _ _ | refine ext_alloc ?_ _ | refine ext_drew ?_ | refine ext_set ?_ (by first | omega | (simp; done) | (simp; omega)) _); done) | fail)) (by omega) HC1.out).mono ?_); rintro _ s3 ⟨rfl, z3⟩; have g3 : Ext W2 s3 := Ext.trans (by first | ((repeat first | assumption | exact Below.refl _ _ | refine ext_alloc ?_ _ | refine ext_drew ?_ | refine ext_set ?_ (by first | omega | (simp; done) | (simp; omega)) _); done) | fail) z3)
                | (go_at_call 26; (with_reducible refine (fof_n HN.out (by omega)).mono ?_); rintro _ s4 ⟨bp, Ap, kp, lp, Bp, mp, np, rfl, hp, z4, _⟩; have g4 : Ext W2 s4 := Ext.trans (by first | ((repeat first | assumption | exact Below.refl _ _ | refine ext_alloc ?_ _ | refine ext_drew ?_ | refine ext_set ?_ (by first | omega | (simp; done) | (simp; omega)) _); done) | fail) z4; have HPP := Lib.hid (fun (w' : World) (h : Ext s4 w') => FracV.any (L := 3) (hp.below h) HFL.out (by omega)))
                | (go_at_call 25; (with_reducible refine (cmp_e (HP2.out _ (by first | ((repeat first | assumption | exact Below.refl _ _ | refine ext_alloc ?_ _ | refine ext_drew ?_ | refine ext_set ?_ (by first | omega | (simp; done) | (simp; omega)) _); done) | fail)) (HPP.out _ (by first | ((repeat first | assumption | exact Below.refl _ _ | refine ext_alloc ?_ _ | refine ext_drew ?_ | refine ext_set ?_ (by first | omega | (simp; done) | (simp; omega)) _); done) | fail)) (by omega) HC2.out).mono ?_); rintro _ s5 ⟨rfl, z5⟩; have g5 : Ext W2 s5 := Ext.trans (by first | ((repeat first | assumption | exact Below.refl _ _ | refine ext_alloc ?_ _ | refine ext_drew ?_ | refine ext_set ?_ (by first | omega | (simp; done) | (simp; omega)) _); done) | fail) z5))
            all_goals go_wp2
            all_goals go_ret
            all_goals exact ⟨rfl, V1.trans (Y1.trans (Y2.trans (by first | ((repeat first | assumption | exact Below.refl _ _ | refine ext_alloc ?_ _ | refine ext_drew ?_ | refine ext_set ?_ (by first | omega | (simp; done) | (simp; omega)) _); done) | fail)))⟩
  · go_enter Tryd.func5, Tryd.ntmps5
    go_wp2_with (first
      | (go_at_call 12; (with_reducible refine (eawake ht).mono ?_); rintro e w1 ⟨rfl, x1⟩; have y1 : Ext w w1 := (by first | exact x1 | exact Ext.trans y1 x1); have ht := ht.ext x1)
      | (go_at_call 13; (with_reducible refine (few_f hl).mono ?_); rintro e w1' ⟨rfl, rfl⟩))
    go_ret
    exact ⟨rfl, y1⟩

end Go.Proofs.YtkjcbfaimonaoaaDoor
