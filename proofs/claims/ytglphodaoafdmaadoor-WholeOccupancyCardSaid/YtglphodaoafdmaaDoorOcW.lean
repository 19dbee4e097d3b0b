/- occupancy's awake; numbers within the limits. -/
import Derived.Test.YtglphodaoafdmaaDoorOcB
set_option linter.unusedVariables false
set_option linter.unusedSimpArgs false
set_option maxRecDepth 100000
namespace Go.Proofs.YtglphodaoafdmaaDoor
open Go.RowKit Num

theorem ch322v : pchI 3 2 2 = mkRat 3 4 := by decide +kernel
theorem mean32v : meanQ 3 2 = mkRat 7 4 := by decide +kernel
theorem t34 : (ByteArray.mk (ftxt 3 4).toArray) = ⟨#[51, 47, 52]⟩ := by simp [ftxt, Lib.decDigits]
theorem t74 : (ByteArray.mk (ftxt 7 4).toArray) = ⟨#[55, 47, 52]⟩ := by simp [ftxt, Lib.decDigits]
theorem m34 : (mkRat 3 4).num = 3 ∧ (mkRat 3 4).den = 4 := by decide
theorem m74 : (mkRat 7 4).num = 7 ∧ (mkRat 7 4).den = 4 := by decide
theorem fb34 : FB (mkRat 3 4) 1 := ⟨by rw [m34.1]; show (limbsOf 3).length ≤ 1; rw [limbsOf_one (by omega) (by omega)]; simp, by rw [m34.2]; rw [limbsOf_one (by omega) (by omega)]; simp⟩
theorem fb74 : FB (mkRat 7 4) 1 := ⟨by rw [m74.1]; show (limbsOf 7).length ≤ 1; rw [limbsOf_one (by omega) (by omega)]; simp, by rw [m74.2]; rw [limbsOf_one (by omega) (by omega)]; simp⟩
theorem ch322 {w : World} : Calls Tryd.prog 30 #[.int .i64 3, .int .i64 2, .int .i64 2] w (GivesFE w (mkRat 3 4)) := by
  have h := ochance_ok (n := 3) (D := 2) (d := 2) (w := w) (by omega) (by omega) (by omega)
  rw [ch322v] at h
  exact h
theorem mean32 {w : World} (ht : Tab10 w) : Calls Tryd.prog 38 #[.int .i64 3, .int .i64 2] w (GivesFE w (mkRat 7 4)) := by
  have h := omean_ok (n := 3) (D := 2) (w := w) (by omega) (by omega) (by omega) ht
  rw [mean32v] at h
  exact h

set_option maxHeartbeats 4000000 in
theorem oawake {w : World} (ht : Tab10 w) : Calls Tryd.prog 29 #[] w (fun e w' => e = .returned (.bool true) ∧ Ext w w') := by
  have HT := Lib.hid (fun (w' : World) (h : Ext w w') => ht.ext h)
  clear ht
  go_enter Tryd.func29, Tryd.ntmps29
  go_wp2_with fail
  refine ch322.mono ?_
  rintro e w1 ⟨b1, A1, k1, c1, A1', k1', c1', rfl, h1, y1, n1, n1'⟩
  clear n1 n1'
  go_upto_region 2 with (fail)
  have hG1 := FBox.new w1 (.bool b1) (.slice A1 k1 c1) (.slice A1' k1' c1') 31
  have Y1 : Ext w (w1.alloc (.cells #[.bool b1, .slice A1 k1 c1, .slice A1' k1' c1'] 31)) := ext_alloc y1 _
  have h1 := h1.below (ext_alloc (Below.refl _ _) (.cells #[.bool b1, .slice A1 k1 c1, .slice A1' k1' c1'] 31))
  have hsz1 : w1.heap.size < (w1.alloc (.cells #[.bool b1, .slice A1 k1 c1, .slice A1' k1' c1'] 31)).heap.size := by simp
  generalize w1.alloc (.cells #[.bool b1, .slice A1 k1 c1, .slice A1' k1' c1'] 31) = W1 at *
  generalize w1.heap.size = B1 at *
  have HG1 := Lib.hid (fun (w' : World) (h : Ext W1 w') => hG1.below h)
  have HP1 := Lib.hid (fun (w' : World) (h : Ext W1 w') => FracV.any (h1.below h) fb34 (by omega))
  clear hG1 h1 y1 hsz1
  go_wp2_with fail
  refine (mean32 (HT.out _ Y1)).mono ?_
  rintro e w2 ⟨b2, A2, k2, c2, A2', k2', c2', rfl, h2, y2, n2, n2'⟩
  clear n2 n2'
  go_upto_region 3 with (fail)
  have hG2 := FBox.new w2 (.bool b2) (.slice A2 k2 c2) (.slice A2' k2' c2') 31
  have Y2 : Ext W1 (w2.alloc (.cells #[.bool b2, .slice A2 k2 c2, .slice A2' k2' c2'] 31)) := ext_alloc y2 _
  have h2 := h2.below (ext_alloc (Below.refl _ _) (.cells #[.bool b2, .slice A2 k2 c2, .slice A2' k2' c2'] 31))
  have hsz2 : w2.heap.size < (w2.alloc (.cells #[.bool b2, .slice A2 k2 c2, .slice A2' k2' c2'] 31)).heap.size := by simp
  generalize w2.alloc (.cells #[.bool b2, .slice A2 k2 c2, .slice A2' k2' c2'] 31) = W2 at *
  generalize w2.heap.size = B2 at *
  have HG2 := Lib.hid (fun (w' : World) (h : Ext W2 w') => hG2.below h)
  have HP2 := Lib.hid (fun (w' : World) (h : Ext W2 w') => FracV.any (h2.below h) fb74 (by omega))
  clear hG2 h2 y2 hsz2
  obtain ⟨r0, r1, r2, _, _, _⟩ := HG1.out _ Y2
  obtain ⟨b0, b1', b2', _, _, _⟩ := HG2.out _ (Below.refl _ _)
  have e34 := t34
  have e74 := t74
  have f0 : Ext W2 W2 := Below.refl _ _
  go_wp2_with (first
    | (go_at_call 26; (with_reducible refine (ftext_f (n := 3) (d := 4) (HP1.out _ (Y2.trans (by first | ((repeat first | assumption | exact Below.refl _ _ | refine ext_alloc ?_ _ | refine ext_drew ?_ | refine ext_set ?_ (by first | omega | (simp; done) | (simp; omega)) _); done) | fail))) (by omega) (by decide) (by decide) (by decide) (by omega) (by omega) (by omega) (HT.out _ (Y1.trans (Y2.trans (by first | ((repeat first | assumption | exact Below.refl _ _ | refine ext_alloc ?_ _ | refine ext_drew ?_ | refine ext_set ?_ (by first | omega | (simp; done) | (simp; omega)) _); done) | fail))))).mono ?_); rintro e s1 ⟨rfl, z1⟩; have f1 : Ext W2 s1 := Ext.trans (by first | ((repeat first | assumption | exact Below.refl _ _ | refine ext_alloc ?_ _ | refine ext_drew ?_ | refine ext_set ?_ (by first | omega | (simp; done) | (simp; omega)) _); done) | fail) z1; obtain ⟨b0, b1', b2', _, _, _⟩ := HG2.out _ f1)
    | (go_at_call 26; (with_reducible refine (ftext_f (n := 7) (d := 4) (HP2.out _ (by first | ((repeat first | assumption | exact Below.refl _ _ | refine ext_alloc ?_ _ | refine ext_drew ?_ | refine ext_set ?_ (by first | omega | (simp; done) | (simp; omega)) _); done) | fail)) (by omega) (by decide) (by decide) (by decide) (by omega) (by omega) (by omega) (HT.out _ (Y1.trans (Y2.trans (by first | ((repeat first | assumption | exact Below.refl _ _ | refine ext_alloc ?_ _ | refine ext_drew ?_ | refine ext_set ?_ (by first | omega | (simp; done) | (simp; omega)) _); done) | fail))))).mono ?_); rintro e s2 ⟨rfl, z2⟩; have f2 : Ext W2 s2 := Ext.trans (by first | ((repeat first | assumption | exact Below.refl _ _ | refine ext_alloc ?_ _ | refine ext_drew ?_ | refine ext_set ?_ (by first | omega | (simp; done) | (simp; omega)) _); done) | fail) z2))
  go_ret
  exact ⟨rfl, Y1.trans (Y2.trans f2)⟩

/-- Numbers within the limits. -/
def GivesNum (w : World) (e : Ending) (w' : World) : Prop := ∃ m k : Nat, (m ≤ 30 ∧ k ≤ 59) ∧ e = .returned (.tuple #[.int .i64 m, .int .i64 ((k : Int) + 1)]) ∧ w' = w
set_option maxHeartbeats 1000000 in
theorem onumbers {n D : Int} {w : World} (hn : -9223372036854775808 ≤ n ∧ n ≤ 9223372036854775807) (hD : -9223372036854775808 ≤ D ∧ D ≤ 9223372036854775807) :
    Calls Tryd.prog 35 #[.int .i64 n, .int .i64 D] w (GivesNum w) := by
  go_enter Tryd.func35, Tryd.ntmps35
  go_wp2_with fail
  refine (mod_i (b := 31) (by omega) (by omega) hn).mono ?_
  rintro e w1 ⟨m, hm, rfl, rfl⟩
  go_wp2_with fail
  refine (mod_i (b := 60) (by omega) (by omega) hD).mono ?_
  rintro e w2 ⟨k, hk, rfl, rfl⟩
  have hw : IntKind.i64.wrap (1 + (k : Int)) = (k : Int) + 1 := by rw [wrap_in (by omega)]; omega
  go_wp2
  go_ret2
  exact ⟨m, k, ⟨by omega, by omega⟩, by first | rfl | simp [hw], rfl⟩

end Go.Proofs.YtglphodaoafdmaaDoor
