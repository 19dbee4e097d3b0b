/- The walk of SamplingEnough. -/
import Derived.Test.YtnedgbebajhcpaaGreatDoorREn
import Derived.Test.YtnedgbebajhcpaaGreatDoorWf
import Derived.Test.YtnedgbebajhcpaaGreatDoorOpn
set_option linter.unusedVariables false
set_option linter.unusedSimpArgs false
set_option maxRecDepth 100000
namespace Go.Proofs.YtnedgbebajhcpaaGreatDoor
open Go.RowKit Num

theorem enough_both {D : Int} {L : Nat} {q : Rat} (hL1 : 1 ≤ L) (hL : L ≤ 1000) : ∃ vn ve : Int,
    (∀ (w : World) (b : Bool) (s t : Value), AnyF w b s t q L → Tab10 w → Calls Tryz.prog 15 #[.int .i64 D, .agg #[.bool b, s, t]] w (fun e w' => e = .returned (.tuple #[.int .i64 vn, .int .i64 ve]) ∧ Ext w w')) ∧
    (∀ (w : World) (b : Bool) (s t : Value), AnyF w b s t q L → Calls Tryz.prog 16 #[.int .i64 D, .agg #[.bool b, s, t]] w (fun e w' => e = .returned (.tuple #[.int .i64 vn, .int .i64 ve]) ∧ Ext w w')) := by
  by_cases hq : ShareIn q
  · by_cases hD : 1 ≤ D ∧ D ≤ 60
    · obtain ⟨E, rfl⟩ : ∃ E : Nat, D = E := ⟨D.toNat, by omega⟩
      exact ⟨_, _, fun w b s t hx ht => senough_ok (D := E) hx hL1 hL hq (by omega) (by omega) ht, fun w b s t hx => renough_ok (D := E) hx hL1 hL hq (by omega) (by omega)⟩
    · exact ⟨0, 2, fun w b s t hx ht => senough_range hx hL hq (by omega), fun w b s t hx => renough_range hx hL1 hL hq (by omega)⟩
  · exact ⟨0, 1, fun w b s t hx ht => senough_arg hx hL hq, fun w b s t hx => renough_arg hx hL1 hL hq⟩

set_option maxHeartbeats 8000000 in
theorem law_SEnough {D : Int} {v1 : Value} {z1 : FracIn} {w : World} (h1 : KFrac w v1 z1) (ht : Tab10 w) :
    Calls Tryz.prog 5 #[.int .i64 D, v1] w (fun e w' => e = .returned (.bool true) ∧ Ext w w') := by
  obtain ⟨ng, nl, nv, dl, dv⟩ := z1
  obtain ⟨s, t, rfl, hs, hd⟩ := h1
  dsimp only at hs hd ⊢
  have HT := Lib.hid (fun (w' : World) (h : Ext w w') => ht.ext h)
  have HSL := Lib.hid (fun (w' : World) (h : Ext w w') => hs.below h)
  have HDL := Lib.hid (fun (w' : World) (h : Ext w w') => hd.below h)
  obtain ⟨A, c, rfl⟩ := hs.form
  obtain ⟨A', c', rfl⟩ := hd.form
  clear ht
  by_cases hf1 : nl ≤ 3
  · have en : decide ((3 : Int) < (nl : Int)) = false := decide_eq_false (by omega)
    have en' : ¬ 3 < nl := by omega
    by_cases hf2 : dl ≤ 3
    · have ed : decide ((3 : Int) < (dl : Int)) = false := decide_eq_false (by omega)
      have ed' : ¬ 3 < dl := by omega
      have HX := Lib.hid (fun (w' : World) (h : Ext w w') => KFrac.any (z := ⟨ng, nl, nv, dl, dv⟩) (HSL.out _ h) (HDL.out _ h) (L := 3) hf1 hf2 (by omega))
      dsimp only at HX
      obtain ⟨q, hq⟩ : ∃ q, q = frac ng nv dv := ⟨_, rfl⟩
      rw [← hq] at HX
      clear hq hf1 hf2 hs hd
      obtain ⟨vn, ve, C1, C2⟩ := enough_both (D := D) (q := q) (L := 3 + 1) (by omega) (by omega)
      have H1 := Lib.hid C1
      have H2 := Lib.hid C2
      clear C1 C2
      go_enter Tryz.func5, Tryz.ntmps5
      go_upto_region 1 with (fail)
      have hB0 := FBox.new w (.bool ng) (.slice A nl c) (.slice A' dl c') 27
      have x0 : Ext w (w.alloc (.cells #[.bool ng, .slice A nl c, .slice A' dl c'] 27)) := ext_alloc (Below.refl _ _) _
      have hs0 : w.heap.size + 1 ≤ (w.alloc (.cells #[.bool ng, .slice A nl c, .slice A' dl c'] 27)).heap.size := by simp
      generalize (w.alloc (.cells #[.bool ng, .slice A nl c, .slice A' dl c'] 27)) = W0 at *
      have HB0 := Lib.hid (fun (w' : World) (h : Ext W0 w') => hB0.below h)
      obtain ⟨c00, c01, c02, d00, d01, d02⟩ := hB0
      have HE := Lib.hid x0
      clear x0
      have f0 : Ext W0 W0 := Below.refl _ _
      go_wp2_with fail
      refine (sawake (HT.out _ HE.out)).mono ?_
      rintro e U1 ⟨rfl, y1⟩
      obtain ⟨c00, c01, c02, _, _, _⟩ := HB0.out _ y1
      go_wp2_with fail
      refine (H1.out _ _ _ _ (HX.out _ (HE.out.trans y1)) (HT.out _ (HE.out.trans y1))).mono ?_
      rintro e U2 ⟨rfl, y2⟩
      have y2 := Ext.trans y1 y2
      obtain ⟨c00, c01, c02, _, _, _⟩ := HB0.out _ y2
      go_wp2_with fail
      refine (H2.out _ _ _ _ (HX.out _ (HE.out.trans y2))).mono ?_
      rintro e U3 ⟨rfl, y3⟩
      go_wp2
      go_ret
      exact ⟨rfl, HE.out.trans (y2.trans y3)⟩
    · have ed : decide ((3 : Int) < (dl : Int)) = true := decide_eq_true (by omega)
      have ed' : 3 < dl := by omega
      clear hf1 hf2 hs hd
      go_enter Tryz.func5, Tryz.ntmps5
      go_upto_region 1 with (fail)
      have hB0 := FBox.new w (.bool ng) (.slice A nl c) (.slice A' dl c') 27
      have x0 : Ext w (w.alloc (.cells #[.bool ng, .slice A nl c, .slice A' dl c'] 27)) := ext_alloc (Below.refl _ _) _
      have hs0 : w.heap.size + 1 ≤ (w.alloc (.cells #[.bool ng, .slice A nl c, .slice A' dl c'] 27)).heap.size := by simp
      generalize (w.alloc (.cells #[.bool ng, .slice A nl c, .slice A' dl c'] 27)) = W0 at *
      have HB0 := Lib.hid (fun (w' : World) (h : Ext W0 w') => hB0.below h)
      obtain ⟨c00, c01, c02, d00, d01, d02⟩ := hB0
      have HE := Lib.hid x0
      clear x0
      have f0 : Ext W0 W0 := Below.refl _ _
      go_wp2_with fail
      refine (sawake (HT.out _ HE.out)).mono ?_
      rintro e U1 ⟨rfl, y1⟩
      obtain ⟨c00, c01, c02, _, _, _⟩ := HB0.out _ y1
      go_wp2_with fail
      refine (sawake (HT.out _ (HE.out.trans y1))).mono ?_
      rintro e U2 ⟨rfl, y2⟩
      go_wp2
      go_ret
      exact ⟨rfl, HE.out.trans (y1.trans y2)⟩
  · have en : decide ((3 : Int) < (nl : Int)) = true := decide_eq_true (by omega)
    have en' : 3 < nl := by omega
    clear hf1 hs hd
    go_enter Tryz.func5, Tryz.ntmps5
    go_upto_region 1 with (fail)
    have hB0 := FBox.new w (.bool ng) (.slice A nl c) (.slice A' dl c') 27
    have x0 : Ext w (w.alloc (.cells #[.bool ng, .slice A nl c, .slice A' dl c'] 27)) := ext_alloc (Below.refl _ _) _
    have hs0 : w.heap.size + 1 ≤ (w.alloc (.cells #[.bool ng, .slice A nl c, .slice A' dl c'] 27)).heap.size := by simp
    generalize (w.alloc (.cells #[.bool ng, .slice A nl c, .slice A' dl c'] 27)) = W0 at *
    have HB0 := Lib.hid (fun (w' : World) (h : Ext W0 w') => hB0.below h)
    obtain ⟨c00, c01, c02, d00, d01, d02⟩ := hB0
    have HE := Lib.hid x0
    clear x0
    have f0 : Ext W0 W0 := Below.refl _ _
    go_wp2_with fail
    refine (sawake (HT.out _ HE.out)).mono ?_
    rintro e U1 ⟨rfl, y1⟩
    obtain ⟨c00, c01, c02, _, _, _⟩ := HB0.out _ y1
    go_wp2_with fail
    refine (sawake (HT.out _ (HE.out.trans y1))).mono ?_
    rintro e U2 ⟨rfl, y2⟩
    go_wp2
    go_ret
    exact ⟨rfl, HE.out.trans (y1.trans y2)⟩

end Go.Proofs.YtnedgbebajhcpaaGreatDoor
