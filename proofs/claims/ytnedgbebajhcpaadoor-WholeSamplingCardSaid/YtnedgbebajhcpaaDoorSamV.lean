/- sampling's law page: the fixed calls. -/
import Derived.Test.YtnedgbebajhcpaaDoorSamU
import Derived.Test.YtnedgbebajhcpaaDoorKeepB
import Derived.Test.YtnedgbebajhcpaaDoorFracT
set_option linter.unusedVariables false
set_option linter.unusedSimpArgs false
set_option maxRecDepth 100000
namespace Go.Proofs.YtnedgbebajhcpaaDoor
open Go.RowKit Num

theorem ints_lit2S (w : World) (a b : Int) : IntsV (w.alloc (.cells #[.int .i64 a, .int .i64 b] 3)) (.slice (some ⟨w.heap.size, 0, none⟩) 2 2) [a, b] :=
  IntsV.of_own (base := w.heap.size) (e := 3) (n := 2) (World.ownsRow_lit (base := w.heap.size) (size := 1) w #[.int .i64 a, .int .i64 b] 2 (Nat.le_refl _) (by unfold maxLen; omega) rfl)
theorem m12s : (mkRat 1 2).num = 1 ∧ (mkRat 1 2).den = 2 := by decide
theorem m31s : (3 : Rat).num = 3 ∧ (3 : Rat).den = 1 := by decide
theorem t12s : (ByteArray.mk (ftxt 1 2).toArray) = ⟨#[49, 47, 50]⟩ := by simp [ftxt, Lib.decDigits]
theorem t3s : (ByteArray.mk (ftxt 3 1).toArray) = ⟨#[51]⟩ := by simp [ftxt, Lib.decDigits]
theorem fb12s : FB (mkRat 1 2) 1 := ⟨len_small (by rw [m12s.1]; decide), len_small (by rw [m12s.2]; decide)⟩
theorem fb3s : FB (3 : Rat) 1 := ⟨len_small (by rw [m31s.1]; decide), len_small (by rw [m31s.2]; decide)⟩
theorem exp121s {w : World} (ht : Tab10 w) : Calls Tryd.prog 10 #[.int .i64 1, .int .i64 2, .int .i64 1] w (GivesFE w (mkRat 1 2)) := by
  have h := sexp_ok (n := 1) (D := 2) (m := 1) (w := w) (by omega) (by omega) (by omega) ht
  rw [show meanQ (1 + 1) 2 - meanQ 1 2 = mkRat 1 2 from by decide +kernel] at h
  exact h
theorem toul41 (w : World) : Calls Tryd.prog 19 #[.slice (some ⟨w.heap.size, 0, none⟩) 2 2, .int .i64 1] (w.alloc (.cells #[.int .i64 4, .int .i64 1] 3)) (GivesFE (w.alloc (.cells #[.int .i64 4, .int .i64 1] 3)) 3) := by
  have hT : toulS [4, 1] 1 2 = 3 := by decide +kernel
  have h : Calls Tryd.prog 19 #[.slice (some ⟨w.heap.size, 0, none⟩) 2 2, .int .i64 1] (w.alloc (.cells #[.int .i64 4, .int .i64 1] 3)) (GivesFE (w.alloc (.cells #[.int .i64 4, .int .i64 1] 3)) (toulS [4, 1] 1 2)) :=
    stoul_ok (zs := [4, 1]) (t := 1) (ints_lit2S w 4 1) (by intro z hz; simp at hz; omega) (by decide) (by decide)
  rw [hT] at h
  exact h
theorem split15 (w : World) (ht : Tab10 w) : Calls Tryd.prog 16 #[.slice (some ⟨w.heap.size, 0, none⟩) 2 2, .int .i64 3] (w.alloc (.cells #[.int .i64 1, .int .i64 5] 3)) (GivesIL (w.alloc (.cells #[.int .i64 1, .int .i64 5] 3)) [1, 2] 0) := by
  have h := split_ok (D := [1, 5]) (m := 3) (w := w.alloc (.cells #[.int .i64 1, .int .i64 5] 3)) ⟨by decide, by decide⟩ (by decide) (ints_lit2S w 1 5) (ht.ext (ext_alloc (Below.refl _ _) _))
  rw [bestL_awake] at h
  exact h

set_option maxHeartbeats 8000000 in
theorem sawake {w : World} (ht : Tab10 w) : Calls Tryd.prog 18 #[] w (fun e w' => e = .returned (.bool true) ∧ Ext w w') := by
  have HT := Lib.hid (fun (w' : World) (h : Ext w w') => ht.ext h)
  clear ht
  go_enter Tryd.func18, Tryd.ntmps18
  go_wp2_with fail
  refine (exp121s (HT.out _ (Below.refl _ _))).mono ?_
  rintro e w1 ⟨b1, A1, k1, c1, A1', k1', c1', rfl, h1, y1, n1, n1'⟩
  clear n1 n1'
  go_upto_region 2 with (fail)
  have hG1 := FBox.new w1 (.bool b1) (.slice A1 k1 c1) (.slice A1' k1' c1') 28
  have Y1 : Ext w (w1.alloc (.cells #[.bool b1, .slice A1 k1 c1, .slice A1' k1' c1'] 28)) := ext_alloc y1 _
  have h1 := h1.below (ext_alloc (Below.refl _ _) (.cells #[.bool b1, .slice A1 k1 c1, .slice A1' k1' c1'] 28))
  have hsz1 : w1.heap.size < (w1.alloc (.cells #[.bool b1, .slice A1 k1 c1, .slice A1' k1' c1'] 28)).heap.size := by simp
  generalize w1.alloc (.cells #[.bool b1, .slice A1 k1 c1, .slice A1' k1' c1'] 28) = W1 at *
  generalize w1.heap.size = B1 at *
  have HG1 := Lib.hid (fun (w' : World) (h : Ext W1 w') => hG1.below h)
  have HP1 := Lib.hid (fun (w' : World) (h : Ext W1 w') => FracV.any (h1.below h) (fb12s) (by omega))
  have HB1 := Lib.hid (fun (w' : World) (h : Ext W1 w') => h1.below h)
  clear hG1 h1 y1 hsz1
  go_wp2_with fail
  refine (toul41 _).mono ?_
  rintro e w3 ⟨b3, A3, k3, c3, A3', k3', c3', rfl, h3, y3, n3, n3'⟩
  clear n3 n3'
  have y3 : Ext W1 w3 := (ext_alloc (Below.refl _ _) _).trans y3
  go_upto_region 3 with (fail)
  have hG3 := FBox.new w3 (.bool b3) (.slice A3 k3 c3) (.slice A3' k3' c3') 28
  have Y3 : Ext W1 (w3.alloc (.cells #[.bool b3, .slice A3 k3 c3, .slice A3' k3' c3'] 28)) := ext_alloc y3 _
  have h3 := h3.below (ext_alloc (Below.refl _ _) (.cells #[.bool b3, .slice A3 k3 c3, .slice A3' k3' c3'] 28))
  have hsz3 : w3.heap.size < (w3.alloc (.cells #[.bool b3, .slice A3 k3 c3, .slice A3' k3' c3'] 28)).heap.size := by simp
  generalize w3.alloc (.cells #[.bool b3, .slice A3 k3 c3, .slice A3' k3' c3'] 28) = W3 at *
  generalize w3.heap.size = B3 at *
  have HG3 := Lib.hid (fun (w' : World) (h : Ext W3 w') => hG3.below h)
  have HP3 := Lib.hid (fun (w' : World) (h : Ext W3 w') => FracV.any (h3.below h) fb3s (by omega))
  clear hG3 h3 y3 hsz3
  go_wp2_with fail
  refine (split15 _ (HT.out _ (Y1.trans Y3))).mono ?_
  rintro e w5 ⟨A5, c5, rfl, hI5, y5⟩
  have y5 : Ext W3 w5 := (ext_alloc (Below.refl _ _) _).trans y5
  have HI5 := Lib.hid (fun (w' : World) (h : Ext w5 w') => (show IntsV w' (.slice A5 2 c5) [1, 2] from hI5.below h))
  have E13 : Ext W1 w5 := Y3.trans y5
  have HC := Lib.hid (fun (w' : World) (h : Ext w5 w') => (⟨HG1.out _ (E13.trans h), HG3.out _ (y5.trans h)⟩ : _ ∧ _))
  obtain ⟨⟨p0, p1, p2, _, _, _⟩, q0, q1, q2, _, _, _⟩ := HC.out _ (Below.refl _ _)
  have f0 : Ext w5 w5 := Below.refl _ _
  have HT5 := Lib.hid (fun (w' : World) (h : Ext w5 w') => HT.out _ (Y1.trans (E13.trans h)))
  have e12 := t12s
  have e3 := t3s
  clear hI5
  go_wp2_with (first
    | (go_at_call 31; (with_reducible refine (ftext_f (n := 1) (d := 2) (HP1.out _ (E13.trans f0)) (by omega) (by decide) (by decide) (by decide) (by omega) (by omega) (by omega) (HT5.out _ f0)).mono ?_); rintro e s1 ⟨rfl, z7⟩; have f0 := Ext.trans f0 z7; obtain ⟨⟨p0, p1, p2, _, _, _⟩, q0, q1, q2, _, _, _⟩ := HC.out _ f0)
    | (go_at_call 31; (with_reducible refine (ftext_f (n := 3) (d := 1) (HP3.out _ (y5.trans f0)) (by omega) (by decide) (by decide) (by decide) (by omega) (by omega) (by omega) (HT5.out _ f0)).mono ?_); rintro e s1 ⟨rfl, z7⟩; have f0 := Ext.trans f0 z7)
    | (go_at_call 44; (with_reducible refine (bints_same (HI5.out _ (ext_alloc f0 _)) (ints_lit2S _ 1 2)).mono ?_); rintro e s1 ⟨rfl, z7⟩; have f0 := Ext.trans (ext_alloc f0 _) z7))
  go_ret
  exact ⟨rfl, Y1.trans (E13.trans f0)⟩

end Go.Proofs.YtnedgbebajhcpaaDoor
