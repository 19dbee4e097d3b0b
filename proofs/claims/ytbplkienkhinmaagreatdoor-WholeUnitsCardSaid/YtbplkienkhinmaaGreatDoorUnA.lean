/- Units of weight: the fixed calls. -/
import Derived.Test.YtbplkienkhinmaaGreatDoorUnSp
import Derived.Test.YtbplkienkhinmaaGreatDoorUnT
import Derived.Test.YtbplkienkhinmaaGreatDoorFracT
set_option linter.unusedVariables false
set_option linter.unusedSimpArgs false
set_option maxRecDepth 100000
namespace Go.Proofs.YtbplkienkhinmaaGreatDoor
open Go.RowKit Num

theorem len_smallU {n : Nat} (h : n < 1000000000) : (limbsOf n).length ≤ 1 := limbsOf_length_le (k := 1) (by omega)
theorem fbU {q : Rat} (h1 : q.num.natAbs < 1000000000) (h2 : q.den < 1000000000) : FB q 1 := ⟨len_smallU h1, len_smallU h2⟩
theorem spans100 : spansL 100 10 2 = [(45, 55), (90, 110)] := by decide +kernel
theorem n45 : (45 : Rat).num = 45 ∧ (45 : Rat).den = 1 := by decide
theorem n110 : (110 : Rat).num = 110 ∧ (110 : Rat).den = 1 := by decide
theorem n4 : (4 : Rat).num = 4 ∧ (4 : Rat).den = 1 := by decide
theorem t45 : (ByteArray.mk (ftxt 45 1).toArray) = ⟨#[52, 53]⟩ := by simp [ftxt, Lib.decDigits]
theorem t110 : (ByteArray.mk (ftxt 110 1).toArray) = ⟨#[49, 49, 48]⟩ := by simp [ftxt, Lib.decDigits]
theorem t4 : (ByteArray.mk (ftxt 4 1).toArray) = ⟨#[52]⟩ := by simp [ftxt, Lib.decDigits]
theorem fb45 : FB (45 : Rat) 1 := fbU (by rw [n45.1]; decide) (by rw [n45.2]; decide)
theorem fb110 : FB (110 : Rat) 1 := fbU (by rw [n110.1]; decide) (by rw [n110.2]; decide)
theorem fb4 : FB (4 : Rat) 1 := fbU (by rw [n4.1]; decide) (by rw [n4.2]; decide)
theorem half8 : ((8 : Int) : Rat) / ((2 : Int) : Rat) = 4 := by decide +kernel
def GivesS2 (w : World) (e : Ending) (w' : World) : Prop := ∃ A c, e = .returned (.tuple #[.slice A 2 c, .int .i64 0]) ∧ SpansV w' (.slice A 2 c) [(45, 55), (90, 110)] ∧ Ext w w'
theorem spansA {w : World} : Calls Tryz.prog 14 #[.int .i64 100, .int .i64 10, .int .i64 2] w (GivesS2 w) := by
  have h := uspans (wt := 100) (tol := 10) (m := 2) (w := w) (by omega) (by omega) (by omega) (by omega) (by omega) (by omega)
  rw [spans100] at h
  exact h
theorem ints4 (w : World) : IntsV (w.alloc (.cells #[.int .i64 4, .int .i64 9, .int .i64 2, .int .i64 4] 3)) (.slice (some ⟨w.heap.size, 0, none⟩) 4 4) [4, 9, 2, 4] :=
  IntsV.of_own (base := w.heap.size) (e := 3) (n := 4) (World.ownsRow_lit (base := w.heap.size) (size := 1) w #[.int .i64 4, .int .i64 9, .int .i64 2, .int .i64 4] 4 (Nat.le_refl _) (by unfold maxLen; omega) rfl)
theorem medianA (w : World) : Calls Tryz.prog 15 #[.slice (some ⟨w.heap.size, 0, none⟩) 4 4] (w.alloc (.cells #[.int .i64 4, .int .i64 9, .int .i64 2, .int .i64 4] 3)) (GivesFE (w.alloc (.cells #[.int .i64 4, .int .i64 9, .int .i64 2, .int .i64 4] 3)) 4) := by
  have h := umedian4 (ints4 w)
  rw [half8] at h
  exact h

set_option maxHeartbeats 8000000 in
theorem uawake {w : World} (ht : Tab10 w) : Calls Tryz.prog 5 #[] w (fun e w' => e = .returned (.bool true) ∧ Ext w w') := by
  have HT := Lib.hid (fun (w' : World) (h : Ext w w') => ht.ext h)
  clear ht
  go_enter Tryz.func5, Tryz.ntmps5
  go_wp2_with fail
  refine spansA.mono ?_
  rintro e w1 ⟨A, c, rfl, hs, x1⟩
  obtain ⟨b0, o0, m1, A1, k1, c1, A2, k2, c2, m2, A3, k3, c3, A4, k4, c4, e, hb0, hsx, f1, _⟩ := hs.at_ (j := 0) rfl
  obtain ⟨b9, o9, m1', A1', k1', c1', A2', k2', c2', m2', A3', k3', c3', A4', k4', c4', e', hb9, hsy, _, f2⟩ := hs.at_ (j := 1) rfl
  subst e
  injection e' with e'
  injection e' with e1 e2
  subst e1 e2
  have HP1 := Lib.hid (fun (w' : World) (h : Ext w1 w') => FracV.any (f1.below h) fb45 (by omega))
  have HP2 := Lib.hid (fun (w' : World) (h : Ext w1 w') => FracV.any (f2.below h) fb110 (by omega))
  have HC1 := Lib.hid (fun (w' : World) (h : Ext w1 w') => hsx.below h)
  have HC2 := Lib.hid (fun (w' : World) (h : Ext w1 w') => hsy.below h)
  clear hs hsx hsy f1 f2
  go_wp2_with fail
  refine (medianA _).mono ?_
  rintro e w6 ⟨b6, A6, k6, c6, A6', k6', c6', rfl, h6, y6, n6, n6'⟩
  clear n6 n6'
  have y6 : Ext w1 w6 := (ext_alloc (Below.refl _ _) _).trans y6
  go_upto_region 3 with (fail)
  have hG6 := FBox.new w6 (.bool b6) (.slice A6 k6 c6) (.slice A6' k6' c6') 27
  have Y6 : Ext w1 (w6.alloc (.cells #[.bool b6, .slice A6 k6 c6, .slice A6' k6' c6'] 27)) := ext_alloc y6 _
  have h6 := h6.below (ext_alloc (Below.refl _ _) (.cells #[.bool b6, .slice A6 k6 c6, .slice A6' k6' c6'] 27))
  have hsz6 : w6.heap.size < (w6.alloc (.cells #[.bool b6, .slice A6 k6 c6, .slice A6' k6' c6'] 27)).heap.size := by simp
  generalize w6.alloc (.cells #[.bool b6, .slice A6 k6 c6, .slice A6' k6' c6'] 27) = W6 at *
  generalize w6.heap.size = B6 at *
  have HG6 := Lib.hid (fun (w' : World) (h : Ext W6 w') => hG6.below h)
  have HP6 := Lib.hid (fun (w' : World) (h : Ext W6 w') => FracV.any (h6.below h) fb4 (by omega))
  clear hG6 h6 y6 hsz6
  have HC := Lib.hid (fun (w' : World) (h : Ext W6 w') => (⟨⟨(HC1.out _ (Y6.trans h)).1, (HC1.out _ (Y6.trans h)).2.1, (HC1.out _ (Y6.trans h)).2.2.1⟩, ⟨(HC2.out _ (Y6.trans h)).2.2.2.1, (HC2.out _ (Y6.trans h)).2.2.2.2.1, (HC2.out _ (Y6.trans h)).2.2.2.2.2⟩, (HG6.out _ h).1, (HG6.out _ h).2.1, (HG6.out _ h).2.2.1⟩ : (w'.cell? ⟨b0, o0, none⟩ = some (.bool m1) ∧ w'.cell? ⟨b0, o0 + 1, none⟩ = some (.slice A1 k1 c1) ∧ w'.cell? ⟨b0, o0 + 2, none⟩ = some (.slice A2 k2 c2)) ∧ (w'.cell? ⟨b0, o0 + 6 + 3, none⟩ = some (.bool m2') ∧ w'.cell? ⟨b0, o0 + 6 + 3 + 1, none⟩ = some (.slice A3' k3' c3') ∧ w'.cell? ⟨b0, o0 + 6 + 3 + 2, none⟩ = some (.slice A4' k4' c4')) ∧ w'.cell? ⟨B6, 0, none⟩ = some (.bool b6) ∧ w'.cell? ⟨B6, 1, none⟩ = some (.slice A6 k6 c6) ∧ w'.cell? ⟨B6, 2, none⟩ = some (.slice A6' k6' c6')))
  obtain ⟨⟨p0, p1, p2⟩, ⟨q0, q1, q2⟩, s0, s1, s2⟩ := HC.out _ (Below.refl _ _)
  have f0 : Ext W6 W6 := Below.refl _ _
  have HT6 := Lib.hid (fun (w' : World) (h : Ext W6 w') => HT.out _ (x1.trans (Y6.trans h)))
  have HY6 := Lib.hid Y6
  have e45 := t45
  have e110 := t110
  have e4 := t4
  go_wp2_with (first
    | (go_at_call 16; (with_reducible refine (ftext_f (n := 45) (d := 1) (HP1.out _ (HY6.out.trans f0)) (by omega) (by decide) (by decide) (by decide) (by omega) (by omega) (by omega) (HT6.out _ f0)).mono ?_); rintro e s1 ⟨rfl, z7⟩; have f0 := Ext.trans f0 z7; obtain ⟨⟨p0, p1, p2⟩, ⟨q0, q1, q2⟩, s0, s1, s2⟩ := HC.out _ f0)
    | (go_at_call 16; (with_reducible refine (ftext_f (n := 110) (d := 1) (HP2.out _ (HY6.out.trans f0)) (by omega) (by decide) (by decide) (by decide) (by omega) (by omega) (by omega) (HT6.out _ f0)).mono ?_); rintro e s1 ⟨rfl, z7⟩; have f0 := Ext.trans f0 z7; obtain ⟨⟨p0, p1, p2⟩, ⟨q0, q1, q2⟩, s0, s1, s2⟩ := HC.out _ f0)
    | (go_at_call 16; (with_reducible refine (ftext_f (n := 4) (d := 1) (HP6.out _ f0) (by omega) (by decide) (by decide) (by decide) (by omega) (by omega) (by omega) (HT6.out _ f0)).mono ?_); rintro e s1 ⟨rfl, z7⟩; have f0 := Ext.trans f0 z7))
  go_ret
  exact ⟨rfl, x1.trans (HY6.out.trans f0)⟩

end Go.Proofs.YtbplkienkhinmaaGreatDoor
