/- Fractions: what values stand for which. fraction.zero, made. Fractions: magnitude, Of, Norm, Sign, Cmp. base.Natural and base.Fraction of equal canonical values. -/
import Derived.Test.YtbplkienkhinmaaGreatDoorNatural
import Derived.Test.YtbplkienkhinmaaGreatDoorNum
import Derived.Test.YtbplkienkhinmaaGreatDoorMem
import Derived.Deep.RegionLaw
import Derived.BigQuiet
import Derived.Deep.QuietTactic
import Derived.Deep.RegionHeld3
set_option linter.unusedVariables false
set_option linter.unusedSimpArgs false
set_option maxRecDepth 100000
namespace Go.Proofs.YtbplkienkhinmaaGreatDoor
open Go.RowKit Num

/-- A canonical fraction: sign, numerator, denominator. -/
def FracV (w : World) (b : Bool) (s t : Value) (q : Rat) : Prop := b = decide (q < 0) ∧ CanV w s q.num.natAbs ∧ CanV w t q.den
theorem FracV.below {w w' : World} {b : Bool} {s t : Value} {q : Rat} (h : FracV w b s t q) (hb : Ext w w') : FracV w' b s t q := ⟨h.1, h.2.1.below hb, h.2.2.below hb⟩
/-- What a function that answers a Fraction gives: canonical, in new memory. -/
def GivesF (w : World) (q : Rat) (e : Ending) (w' : World) : Prop :=
  ∃ b A k c A' k' c', e = .returned (.agg #[.bool b, .slice A k c, .slice A' k' c']) ∧ FracV w' b (.slice A k c) (.slice A' k' c') q ∧ Ext w w' ∧ New w.heap.size (.slice A k c) ∧ New w.heap.size (.slice A' k' c')
/-- A fraction of that value, with at most L limbs. -/
def AnyF (w : World) (b : Bool) (s t : Value) (q : Rat) (L : Nat) : Prop :=
  ∃ n d, NatV w s n ∧ NatV w t d ∧ q = frac b n d ∧ (limbsOf n).length ≤ L ∧ (limbsOf d).length ≤ L
theorem AnyF.below {w w' : World} {b : Bool} {s t : Value} {q : Rat} {L : Nat} (h : AnyF w b s t q L) (hb : Ext w w') : AnyF w' b s t q L := by
  obtain ⟨n, d, h1, h2, h3⟩ := h
  exact ⟨n, d, h1.below hb, h2.below hb, h3⟩
theorem AnyF.mk {w : World} {b : Bool} {s t : Value} {n d L : Nat} (hn : NatV w s n) (hd : NatV w t d) (ln : (limbsOf n).length ≤ L) (ld : (limbsOf d).length ≤ L) : AnyF w b s t (frac b n d) L := ⟨n, d, hn, hd, rfl, ln, ld⟩
theorem FracV.any {w : World} {b : Bool} {s t : Value} {q : Rat} {L : Nat} (h : FracV w b s t q) (hf : FB q L) (hL : L ≤ 549755813887) : AnyF w b s t q L :=
  ⟨_, _, h.2.1.nat (Nat.le_trans (Nat.le_trans hf.1 hL) (by decide)), h.2.2.nat (Nat.le_trans (Nat.le_trans hf.2 hL) (by decide)), by rw [h.1, frac_self], hf.1, hf.2⟩

theorem zero_t {x : Value} {w : World} (hx : NatV w x 0) : Calls Tryz.prog 17 #[.agg #[x]] w (fun e w' => e = .returned (.bool true) ∧ Ext w w') := by
  have hX := hx.alloc (.cells #[x] 25)
  have H := Lib.hid (cmp_n hX (NatV.nil_ _))
  go_enter Tryz.func17, Tryz.ntmps17
  go_wp2_with (go_at_call 23; (with_reducible refine H.out.mono ?_); rintro e w1 ⟨rfl, x1⟩)
  go_ret
  exact ⟨rfl, ext_new x1⟩
theorem zero_f {x : Value} {n : Nat} {w : World} (hx : NatV w x n) (hn : n ≠ 0) : Calls Tryz.prog 17 #[.agg #[x]] w (fun e w' => e = .returned (.bool false) ∧ Ext w w') := by
  have hX := hx.alloc (.cells #[x] 25)
  have hc : cmpN n 0 = 1 := by unfold cmpN; rw [if_neg (by omega), if_pos (by omega)]
  have h := cmp_n hX (NatV.nil_ _)
  rw [hc] at h
  have H := Lib.hid h
  clear h hc
  go_enter Tryz.func17, Tryz.ntmps17
  go_wp2_with (go_at_call 23; (with_reducible refine H.out.mono ?_); rintro e w1 ⟨rfl, x1⟩)
  go_ret
  exact ⟨rfl, ext_new x1⟩

theorem set3 {w : World} {b : Nat} {u0 u1 u2 : Value} (h0 : w.cell? ⟨b, 0, none⟩ = some u0) (h1 : w.cell? ⟨b, 1, none⟩ = some u1) (h2 : w.cell? ⟨b, 2, none⟩ = some u2) (x y z : Value) :
    (((w.setCell ⟨b, 0, none⟩ x).setCell ⟨b, 1, none⟩ y).setCell ⟨b, 2, none⟩ z).cell? ⟨b, 0, none⟩ = some x ∧ (((w.setCell ⟨b, 0, none⟩ x).setCell ⟨b, 1, none⟩ y).setCell ⟨b, 2, none⟩ z).cell? ⟨b, 1, none⟩ = some y ∧
    (((w.setCell ⟨b, 0, none⟩ x).setCell ⟨b, 1, none⟩ y).setCell ⟨b, 2, none⟩ z).cell? ⟨b, 2, none⟩ = some z := by
  have n01 : (⟨b, 0, none⟩ : Addr) ≠ ⟨b, 1, none⟩ := by simp
  have n02 : (⟨b, 0, none⟩ : Addr) ≠ ⟨b, 2, none⟩ := by simp
  have n12 : (⟨b, 1, none⟩ : Addr) ≠ ⟨b, 2, none⟩ := by simp
  refine ⟨?_, ?_, ?_⟩
  · rw [World.cell?_setCell_other _ _ _ _ n02.symm, World.cell?_setCell_other _ _ _ _ n01.symm]
    exact World.cell?_setCell_same _ _ _ h0
  · rw [World.cell?_setCell_other _ _ _ _ n12.symm]
    exact World.cell?_setCell_same _ _ _ (by rw [World.cell?_setCell_other _ _ _ _ n01]; exact h1)
  · exact World.cell?_setCell_same _ _ _ (by rw [World.cell?_setCell_other _ _ _ _ n12, World.cell?_setCell_other _ _ _ _ n02]; exact h2)

/-- A fraction's box. -/
def FBox (w : World) (b : Nat) (x y z : Value) : Prop := w.cell? ⟨b, 0, none⟩ = some x ∧ w.cell? ⟨b, 1, none⟩ = some y ∧ w.cell? ⟨b, 2, none⟩ = some z ∧ w.frozen? ⟨b, 0, none⟩ = false ∧ w.frozen? ⟨b, 1, none⟩ = false ∧ w.frozen? ⟨b, 2, none⟩ = false
theorem FBox.below {w w' : World} {b : Nat} {x y z : Value} (h : FBox w b x y z) (hx : Ext w w') : FBox w' b x y z := by
  obtain ⟨h0, h1, h2, f0, f1, f2⟩ := h
  have hb : b < w.heap.size := World.block_lt_of_cell? _ _ h0
  exact ⟨(hx.cell (p := ⟨b, 0, none⟩) hb).trans h0, (hx.cell (p := ⟨b, 1, none⟩) hb).trans h1, (hx.cell (p := ⟨b, 2, none⟩) hb).trans h2,
    (hx.frozen (p := ⟨b, 0, none⟩) hb).trans f0, (hx.frozen (p := ⟨b, 1, none⟩) hb).trans f1, (hx.frozen (p := ⟨b, 2, none⟩) hb).trans f2⟩
theorem FBox.new (w : World) (x y z : Value) (t : TypeId) : FBox (w.alloc (.cells #[x, y, z] t)) w.heap.size x y z := by
  refine ⟨?_, ?_, ?_, ?_, ?_, ?_⟩ <;> simp [go_sem]
theorem FBox.put {w : World} {b : Nat} {u0 u1 u2 : Value} (h : FBox w b u0 u1 u2) (x y z : Value) : FBox (((w.setCell ⟨b, 0, none⟩ x).setCell ⟨b, 1, none⟩ y).setCell ⟨b, 2, none⟩ z) b x y z := by
  obtain ⟨h0, h1, h2, f0, f1, f2⟩ := h
  obtain ⟨a0, a1, a2⟩ := set3 h0 h1 h2 x y z
  exact ⟨a0, a1, a2, by rw [World.frozen?_setCell, World.frozen?_setCell, World.frozen?_setCell]; exact f0, by rw [World.frozen?_setCell, World.frozen?_setCell, World.frozen?_setCell]; exact f1, by rw [World.frozen?_setCell, World.frozen?_setCell, World.frozen?_setCell]; exact f2⟩
theorem FBox.away {w : World} {b b' : Nat} {u0 u1 u2 : Value} (h : FBox w b u0 u1 u2) (hne : b' ≠ b) (x y z : Value) : FBox (((w.setCell ⟨b', 0, none⟩ x).setCell ⟨b', 1, none⟩ y).setCell ⟨b', 2, none⟩ z) b u0 u1 u2 := by
  obtain ⟨h0, h1, h2, f0, f1, f2⟩ := h
  have ne : ∀ i j : Nat, (⟨b', i, none⟩ : Addr) ≠ ⟨b, j, none⟩ := fun i j e => by injection e with e1; exact hne e1
  refine ⟨?_, ?_, ?_, by rw [World.frozen?_setCell, World.frozen?_setCell, World.frozen?_setCell]; exact f0, by rw [World.frozen?_setCell, World.frozen?_setCell, World.frozen?_setCell]; exact f1, by rw [World.frozen?_setCell, World.frozen?_setCell, World.frozen?_setCell]; exact f2⟩
  · rw [World.cell?_setCell_other _ _ _ _ (ne 2 0), World.cell?_setCell_other _ _ _ _ (ne 1 0), World.cell?_setCell_other _ _ _ _ (ne 0 0)]; exact h0
  · rw [World.cell?_setCell_other _ _ _ _ (ne 2 1), World.cell?_setCell_other _ _ _ _ (ne 1 1), World.cell?_setCell_other _ _ _ _ (ne 0 1)]; exact h1
  · rw [World.cell?_setCell_other _ _ _ _ (ne 2 2), World.cell?_setCell_other _ _ _ _ (ne 1 2), World.cell?_setCell_other _ _ _ _ (ne 0 2)]; exact h2
theorem FracV.put {w : World} {c : Bool} {s t : Value} {q : Rat} {b B : Nat} (h : FracV w c s t q) (hs : New B s) (ht : New B t) (hb : b < B) (x y z : Value) : FracV (((w.setCell ⟨b, 0, none⟩ x).setCell ⟨b, 1, none⟩ y).setCell ⟨b, 2, none⟩ z) c s t q :=
  ⟨h.1, U32s.setNew (U32s.setNew (U32s.setNew h.2.1 hs hb _) hs hb _) hs hb _, U32s.setNew (U32s.setNew (U32s.setNew h.2.2 ht hb _) ht hb _) ht hb _⟩
theorem ext_put {a w : World} (h : Ext a w) {b : Nat} (hb : a.heap.size ≤ b) (x y z : Value) : Ext a (((w.setCell ⟨b, 0, none⟩ x).setCell ⟨b, 1, none⟩ y).setCell ⟨b, 2, none⟩ z) := ((h.setCell (by exact hb) _).setCell (by exact hb) _).setCell (by exact hb) _
/-- A box somewhere that holds a canonical natural. -/
def NBoxAt (W wx : World) (s : Value) (n : Nat) : Prop := ∃ b A k c, s = .pointer (some ⟨b, 0, none⟩) ∧ wx.cell? ⟨b, 0, none⟩ = some (.slice A k c) ∧ CanV wx (.slice A k c) n ∧ Ext W wx
/-- The end of a function that answers a Fraction in its box. -/
theorem GivesF.box {w w1 : World} {b : Bool} {A A' : Option Addr} {k c k' c' B : Nat} {q : Rat} {p0 p1 p2 : Value} (hE : Ext w w1) (h : FracV w1 b (.slice A k c) (.slice A' k' c') q) (hn : New (B + 1) (.slice A k c)) (hn' : New (B + 1) (.slice A' k' c')) (hB : w.heap.size ≤ B) :
    GivesF w q (.returned (.agg #[.bool b, .slice A k c, .slice A' k' c'])) (((w1.setCell ⟨B, 0, none⟩ p0).setCell ⟨B, 1, none⟩ p1).setCell ⟨B, 2, none⟩ p2) := by
  refine ⟨_, _, _, _, _, _, _, rfl, ⟨h.1, ?_, ?_⟩, ((hE.setCell (by exact hB) _).setCell (by exact hB) _).setCell (by exact hB) _, hn.mono (by omega), hn'.mono (by omega)⟩
  · exact U32s.setNew (U32s.setNew (U32s.setNew h.2.1 hn (Nat.lt_succ_self _) _) hn (Nat.lt_succ_self _) _) hn (Nat.lt_succ_self _) _
  · exact U32s.setNew (U32s.setNew (U32s.setNew h.2.2 hn' (Nat.lt_succ_self _) _) hn' (Nat.lt_succ_self _) _) hn' (Nat.lt_succ_self _) _
theorem FracV.zero {w : World} {t : Value} (h : CanV w t 1) : FracV w false (.slice none 0 0) t 0 := ⟨by decide, CanV.nil_ _, h⟩

set_option maxHeartbeats 2000000 in
theorem made_z {b : Bool} {x y : Value} {n d : Nat} {w : World} (hx : NatV w x n) (hy : NatV w y d) (hz : n = 0 ∨ d = 0) :
    Calls Tryz.prog 30 #[.bool b, .agg #[x], .agg #[y]] w (GivesF w 0) := by
  have hz' : n = 0 ∨ (n ≠ 0 ∧ d = 0) := by omega
  clear hz
  rcases hz' with hz | ⟨hz1, hz⟩
  all_goals
    subst hz
    go_enter Tryz.func30, Tryz.ntmps30
    go_upto_region 1 with (fail)
    have hB0 : Boxes w (((w.alloc (.cells #[x] 25)).alloc (.cells #[y] 25)).alloc (.cells #[.bool false, .slice none 0 0, .slice none 0 0] 27)) [[x], [y], [.bool false, .slice none 0 0, .slice none 0 0]] := (((Boxes.nil_ w).alloc rfl [x] 25).alloc (by simp) [y] 25).alloc (by simp) [.bool false, .slice none 0 0, .slice none 0 0] 27
    have hF0 : FBox (((w.alloc (.cells #[x] 25)).alloc (.cells #[y] 25)).alloc (.cells #[.bool false, .slice none 0 0, .slice none 0 0] 27)) (w.heap.size + 1 + 1) (.bool false) (.slice none 0 0) (.slice none 0 0) := by
      have := FBox.new ((w.alloc (.cells #[x] 25)).alloc (.cells #[y] 25)) (.bool false) (.slice none 0 0) (.slice none 0 0) 27
      simpa using this
    generalize ((w.alloc (.cells #[x] 25)).alloc (.cells #[y] 25)).alloc (.cells #[.bool false, .slice none 0 0, .slice none 0 0] 27) = W0 at *
    have HS := Lib.hid (fun (w' : World) (h : Ext W0 w') => ((hB0.below h).cell 1 _ 0 _ rfl rfl : w'.cell? ⟨w.heap.size + 1, 0, none⟩ = some y ∧ w'.frozen? ⟨w.heap.size + 1, 0, none⟩ = false))
    have HF := Lib.hid (fun (w' : World) (h : Ext W0 w') => hF0.below h)
    have HE := Lib.hid hB0.ext
    have HX := Lib.hid (hx.below hB0.ext)
    have HY := Lib.hid (hy.below hB0.ext)
    have hs0 : w.heap.size + 3 ≤ W0.heap.size := hB0.size
    obtain ⟨cx0, _⟩ : W0.cell? ⟨w.heap.size, 0, none⟩ = some x ∧ W0.frozen? ⟨w.heap.size, 0, none⟩ = false := hB0.cell 0 _ 0 _ rfl rfl
    clear hB0 hx hy hF0
    have f0 : Ext W0 W0 := Below.refl _ _
    go_wp2_with (first
      | (go_at_call 17; (with_reducible refine (zero_t (NatV.below HX.out (by first | ((repeat first | assumption | exact Below.refl _ _ | refine ext_alloc ?_ _ | refine ext_drew ?_ | refine ext_set ?_ (by first | omega | (simp; done) | (simp; omega)) _); done) | fail))).mono ?_); rintro e s1 ⟨rfl, z1⟩; have f1 : Ext W0 s1 := Ext.trans (by first | ((repeat first | assumption | exact Below.refl _ _ | refine ext_alloc ?_ _ | refine ext_drew ?_ | refine ext_set ?_ (by first | omega | (simp; done) | (simp; omega)) _); done) | fail) z1; obtain ⟨cy1, _⟩ := HS.out _ f1)
      | (go_at_call 17; (with_reducible refine (zero_f (NatV.below HX.out (by first | ((repeat first | assumption | exact Below.refl _ _ | refine ext_alloc ?_ _ | refine ext_drew ?_ | refine ext_set ?_ (by first | omega | (simp; done) | (simp; omega)) _); done) | fail)) hz1).mono ?_); rintro e s1 ⟨rfl, z1⟩; have f1 : Ext W0 s1 := Ext.trans (by first | ((repeat first | assumption | exact Below.refl _ _ | refine ext_alloc ?_ _ | refine ext_drew ?_ | refine ext_set ?_ (by first | omega | (simp; done) | (simp; omega)) _); done) | fail) z1; obtain ⟨cy1, _⟩ := HS.out _ f1)
      | (go_at_call 17; (with_reducible refine (zero_t (NatV.below HY.out (by first | ((repeat first | assumption | exact Below.refl _ _ | refine ext_alloc ?_ _ | refine ext_drew ?_ | refine ext_set ?_ (by first | omega | (simp; done) | (simp; omega)) _); done) | fail))).mono ?_); rintro e s2 ⟨rfl, z2⟩; have f2 : Ext W0 s2 := Ext.trans (by first | ((repeat first | assumption | exact Below.refl _ _ | refine ext_alloc ?_ _ | refine ext_drew ?_ | refine ext_set ?_ (by first | omega | (simp; done) | (simp; omega)) _); done) | fail) z2)
      | (go_at_call 49; (with_reducible refine (nof_e (m := 1) (by omega) (by omega)).mono ?_); rintro e s3 ⟨A3, k3, c3, rfl, h3, z3, n3⟩; have f3 : Ext W0 s3 := Ext.trans (by first | ((repeat first | assumption | exact Below.refl _ _ | refine ext_alloc ?_ _ | refine ext_drew ?_ | refine ext_set ?_ (by first | omega | (simp; done) | (simp; omega)) _); done) | fail) z3; obtain ⟨r0, r1, r2, g0, g1, g2⟩ := HF.out _ f3))
    obtain ⟨q0, q1, q2⟩ := set3 r0 r1 r2 (.bool false) (.slice none 0 0) (.slice A3 k3 c3)
    refine bodyPost_ret (v := .agg #[.bool false, .slice none 0 0, .slice A3 k3 c3]) (by simp [results, Tryz.results30, go_sem, q0, q1, q2]) rfl ?_
    exact GivesF.box (B := w.heap.size + 1 + 1) (HE.out.trans f3) (FracV.zero h3) (New.nil_ _) (n3.mono (by have := z3.size; first | (have := f2.size; omega) | (have := f1.size; omega))) (by omega)

set_option maxHeartbeats 4000000 in
theorem made_p {b : Bool} {x y : Value} {n d : Nat} {w : World} (hx : NatV w x n) (hy : NatV w y d) (hn : n ≠ 0) (hd : d ≠ 0) (hln : (limbsOf n).length ≤ 549755813887) (hld : (limbsOf d).length ≤ 549755813887) :
    Calls Tryz.prog 30 #[.bool b, .agg #[x], .agg #[y]] w (GivesF w (frac b n d)) := by
  have HG := Lib.hid (show 0 < Nat.gcd n d from Nat.gcd_pos_of_pos_left _ (Nat.pos_of_ne_zero hn))
  have HGL := Lib.hid (show (limbsOf (Nat.gcd n d)).length ≤ 549755813887 from Nat.le_trans (limbsOf_length_mono (Nat.gcd_le_left _ (Nat.pos_of_ne_zero hn))) hln)
  have HLN := Lib.hid hln
  have HLD := Lib.hid hld
  have HQ := Lib.hid (show b = decide (frac b n d < 0) ∧ (frac b n d).num.natAbs = n / Nat.gcd n d ∧ (frac b n d).den = d / Nat.gcd n d from ⟨(frac_neg_iff hn hd).symm, frac_num hd, frac_den hd⟩)
  clear hln hld
  go_enter Tryz.func30, Tryz.ntmps30
  go_upto_region 1 with (fail)
  have hB0 : Boxes w (((w.alloc (.cells #[x] 25)).alloc (.cells #[y] 25)).alloc (.cells #[.bool false, .slice none 0 0, .slice none 0 0] 27)) [[x], [y], [.bool false, .slice none 0 0, .slice none 0 0]] := (((Boxes.nil_ w).alloc rfl [x] 25).alloc (by simp) [y] 25).alloc (by simp) [.bool false, .slice none 0 0, .slice none 0 0] 27
  have hF0 : FBox (((w.alloc (.cells #[x] 25)).alloc (.cells #[y] 25)).alloc (.cells #[.bool false, .slice none 0 0, .slice none 0 0] 27)) (w.heap.size + 1 + 1) (.bool false) (.slice none 0 0) (.slice none 0 0) := by
    have := FBox.new ((w.alloc (.cells #[x] 25)).alloc (.cells #[y] 25)) (.bool false) (.slice none 0 0) (.slice none 0 0) 27
    simpa using this
  generalize ((w.alloc (.cells #[x] 25)).alloc (.cells #[y] 25)).alloc (.cells #[.bool false, .slice none 0 0, .slice none 0 0] 27) = W0 at *
  have HS := Lib.hid (fun (w' : World) (h : Ext W0 w') => ((hB0.below h).cell 1 _ 0 _ rfl rfl : w'.cell? ⟨w.heap.size + 1, 0, none⟩ = some y ∧ w'.frozen? ⟨w.heap.size + 1, 0, none⟩ = false))
  have HF := Lib.hid (fun (w' : World) (h : Ext W0 w') => hF0.below h)
  have HE := Lib.hid hB0.ext
  have HX := Lib.hid (hx.below hB0.ext)
  have HY := Lib.hid (hy.below hB0.ext)
  have hs0 : w.heap.size + 3 ≤ W0.heap.size := hB0.size
  obtain ⟨cx0, _⟩ : W0.cell? ⟨w.heap.size, 0, none⟩ = some x ∧ W0.frozen? ⟨w.heap.size, 0, none⟩ = false := hB0.cell 0 _ 0 _ rfl rfl
  have HCX := Lib.hid (fun (w' : World) (h : Ext W0 w') => (show w'.cell? ⟨w.heap.size, 0, none⟩ = some x from ((hB0.below h).cell 0 _ 0 _ rfl rfl).1))
  clear hB0 hx hy hF0
  have f0 : Ext W0 W0 := Below.refl _ _
  go_wp2_with (first
    | (go_at_call 17; (with_reducible refine (zero_f (NatV.below HX.out (by first | ((repeat first | assumption | exact Below.refl _ _ | refine ext_alloc ?_ _ | refine ext_drew ?_ | refine ext_set ?_ (by first | omega | (simp; done) | (simp; omega)) _); done) | fail)) hn).mono ?_); rintro e s1 ⟨rfl, z1⟩; have f1 : Ext W0 s1 := Ext.trans (by first | ((repeat first | assumption | exact Below.refl _ _ | refine ext_alloc ?_ _ | refine ext_drew ?_ | refine ext_set ?_ (by first | omega | (simp; done) | (simp; omega)) _); done) | fail) z1; obtain ⟨cy1, _⟩ := HS.out _ f1)
    | (go_at_call 17; (with_reducible refine (zero_f (NatV.below HY.out (by first | ((repeat first | assumption | exact Below.refl _ _ | refine ext_alloc ?_ _ | refine ext_drew ?_ | refine ext_set ?_ (by first | omega | (simp; done) | (simp; omega)) _); done) | fail)) hd).mono ?_); rintro e s2 ⟨rfl, z2⟩; have f2 : Ext W0 s2 := Ext.trans (by first | ((repeat first | assumption | exact Below.refl _ _ | refine ext_alloc ?_ _ | refine ext_drew ?_ | refine ext_set ?_ (by first | omega | (simp; done) | (simp; omega)) _); done) | fail) z2; obtain ⟨cy2, _⟩ := HS.out _ f2; have cx2 := HCX.out _ f2))
  refine (gcd_n (NatV.below HX.out (by first | ((repeat first | assumption | exact Below.refl _ _ | refine ext_alloc ?_ _ | refine ext_drew ?_ | refine ext_set ?_ (by first | omega | (simp; done) | (simp; omega)) _); done) | fail)) (NatV.below HY.out (by first | ((repeat first | assumption | exact Below.refl _ _ | refine ext_alloc ?_ _ | refine ext_drew ?_ | refine ext_set ?_ (by first | omega | (simp; done) | (simp; omega)) _); done) | fail)) (by have := HLN.out; omega) (by have := HLD.out; omega)).mono ?_
  rintro e s3 ⟨A3, k3, c3, rfl, h3, z3, _⟩
  have y3 := ext_alloc z3 (.cells #[.slice A3 k3 c3] 25)
  have p3 := CanV.alloc h3 (.cells #[.slice A3 k3 c3] 25)
  have b3 : (s3.alloc (.cells #[.slice A3 k3 c3] 25)).cell? ⟨s3.heap.size, 0, none⟩ = some (.slice A3 k3 c3) := by simp [go_sem]
  have f3 := f2.trans y3
  obtain ⟨cy3, _⟩ := HS.out _ f3
  have cx3 := HCX.out _ f3
  clear h3 z3 y3 cx2 cy2 cx0 z1 z2 f1 f2
  go_wp2_with fail
  generalize s3.alloc (.cells #[.slice A3 k3 c3] 25) = W3 at *
  have HP3 := Lib.hid (fun (w' : World) (h : Ext W3 w') => CanV.nat (CanV.below p3 h) (Nat.le_trans HGL.out (by decide)))
  clear p3
  refine (divmod_pos (NatV.below HX.out f3) (HP3.out _ (Below.refl _ _)) HG.out (by have := HLN.out; omega)).mono ?_
  rintro e s4 ⟨A4, k4, c4, A5, k5, c5, rfl, h4, h5, z4, n4, n5⟩
  have y4 := ext_alloc (ext_alloc z4 (.cells #[.slice A4 k4 c4] 25)) (.cells #[.slice A5 k5 c5] 25)
  have p4 := CanV.alloc (CanV.alloc h4 (.cells #[.slice A4 k4 c4] 25)) (.cells #[.slice A5 k5 c5] 25)
  have b4 : ((s4.alloc (.cells #[.slice A4 k4 c4] 25)).alloc (.cells #[.slice A5 k5 c5] 25)).cell? ⟨s4.heap.size, 0, none⟩ = some (.slice A4 k4 c4) := by simp [go_sem, World.cell?_alloc_old]
  have b3 := (y4.cell (p := ⟨s3.heap.size, 0, none⟩) (World.block_lt_of_cell? _ _ b3)).trans b3
  have f4 := f3.trans y4
  obtain ⟨cy4, _⟩ := HS.out _ f4
  have HP4 := Lib.hid (HP3.out _ y4)
  have hs4 := y4.size
  have n4' := n4.mono f3.size
  clear h4 h5 z4 cx3 cy3 y4 n4 n5 HP3
  go_wp2_with fail
  generalize (s4.alloc (.cells #[.slice A4 k4 c4] 25)).alloc (.cells #[.slice A5 k5 c5] 25) = W4 at *
  refine (divmod_pos (NatV.below HY.out f4) HP4.out HG.out (by have := HLD.out; omega)).mono ?_
  rintro e s6 ⟨A6, k6, c6, A7, k7, c7, rfl, h6, h7, z6, n6, n7⟩
  have y6 := ext_alloc (ext_alloc z6 (.cells #[.slice A6 k6 c6] 25)) (.cells #[.slice A7 k7 c7] 25)
  have p6 := CanV.alloc (CanV.alloc h6 (.cells #[.slice A6 k6 c6] 25)) (.cells #[.slice A7 k7 c7] 25)
  have b6 : ((s6.alloc (.cells #[.slice A6 k6 c6] 25)).alloc (.cells #[.slice A7 k7 c7] 25)).cell? ⟨s6.heap.size, 0, none⟩ = some (.slice A6 k6 c6) := by simp [go_sem, World.cell?_alloc_old]
  have b4 := (y6.cell (p := ⟨s4.heap.size, 0, none⟩) (World.block_lt_of_cell? _ _ b4)).trans b4
  have p4 := CanV.below p4 y6
  have f6 := f4.trans y6
  have n6' := n6.mono f4.size
  obtain ⟨r0, r1, r2, g0, g1, g2⟩ := HF.out _ f6
  clear h6 h7 z6 b3 cy4 y6 n6 n7
  go_upto_region 6 with (fail)
  generalize (s6.alloc (.cells #[.slice A6 k6 c6] 25)).alloc (.cells #[.slice A7 k7 c7] 25) = W6 at *
  go_wp2
  obtain ⟨q0, q1, q2⟩ := set3 r0 r1 r2 (.bool b) (.slice A4 k4 c4) (.slice A6 k6 c6)
  refine bodyPost_ret (v := .agg #[.bool b, .slice A4 k4 c4, .slice A6 k6 c6]) (by simp [results, Tryz.results30, go_sem, q0, q1, q2]) rfl ?_
  obtain ⟨e1, e2, e3⟩ := HQ.out
  exact GivesF.box (B := w.heap.size + 1 + 1) (HE.out.trans f6) ⟨e1, by rw [e2]; exact p4, by rw [e3]; exact p6⟩ (n4'.mono (by omega)) (n6'.mono (by omega)) (by omega)

theorem made_n {b : Bool} {x y : Value} {n d : Nat} {w : World} (hx : NatV w x n) (hy : NatV w y d) (hln : (limbsOf n).length ≤ 549755813887) (hld : (limbsOf d).length ≤ 549755813887) :
    Calls Tryz.prog 30 #[.bool b, .agg #[x], .agg #[y]] w (GivesF w (frac b n d)) := by
  by_cases h : n = 0 ∨ d = 0
  · rw [frac_zero h]; exact made_z hx hy h
  · exact made_p hx hy (fun h1 => h (.inl h1)) (fun h1 => h (.inr h1)) hln hld

end Go.Proofs.YtbplkienkhinmaaGreatDoor
namespace Go.Proofs.YtbplkienkhinmaaGreatDoor
open Go.RowKit Num


theorem frac_of (n d : Int) : frac (decide (n < 0) != decide (d < 0)) n.natAbs d.natAbs = (n : Rat) / (d : Rat) := by
  have key : ∀ z : Int, (z : Rat) = if z < 0 then -((z.natAbs : Nat) : Rat) else ((z.natAbs : Nat) : Rat) := by
    intro z
    rw [← Rat.intCast_natCast]
    split
    · rw [← Rat.intCast_neg]; congr 1; omega
    · congr 1; omega
  rw [key n, key d, frac_eq]
  by_cases h1 : n < 0 <;> by_cases h2 : d < 0 <;> simp [h1, h2, sgn, Rat.div_def, Rat.intCast_neg, Rat.intCast_natCast] <;> grind
theorem limbs_i64 {z : Int} (h : -9223372036854775808 ≤ z ∧ z ≤ 9223372036854775807) : (limbsOf z.natAbs).length ≤ 3 :=
  limbsOf_length_le (Nat.lt_of_le_of_lt (show z.natAbs ≤ 9223372036854775808 from by omega) (by decide))

set_option maxHeartbeats 1000000 in
theorem mag_n {z : Int} {w : World} (hz : -9223372036854775808 ≤ z ∧ z ≤ 9223372036854775807) : Calls Tryz.prog 31 #[.int .i64 z] w (GivesN w z.natAbs) := by
  by_cases hn : z < 0
  · have hw1 : IntKind.u64.wrap z = z + 18446744073709551616 := by rw [IntKind.wrap_u64]; omega
    have hw2 : IntKind.u64.wrap (-(z + 18446744073709551616)) = -z := by rw [IntKind.wrap_u64]; omega
    have hw3 : IntKind.u64.wrap (-z) = -z := by rw [IntKind.wrap_u64]; omega
    go_enter Tryz.func31, Tryz.ntmps31
    go_wp2_with (go_at_call 49; (with_reducible refine (nof_e (m := z.natAbs) (by omega) (by omega)).mono ?_); rintro e w1 ⟨A1, k1, c1, rfl, h1, x1, n1⟩; obtain ⟨z1, zf1⟩ := box_new x1; have hE := ext_new x1; simp at n1)
    refine bodyPost_ret (v := .agg #[.slice A1 k1 c1]) (by simp [results, Tryz.results31, go_sem, World.cell?_setCell_same _ _ _ z1]) rfl ?_
    obtain ⟨r1, r2, r3⟩ := res_box (u := .slice A1 k1 c1) hE h1 n1
    exact ⟨_, _, _, rfl, r1, r2, r3⟩
  · have hw1 : IntKind.u64.wrap z = z := by rw [IntKind.wrap_u64]; omega
    go_enter Tryz.func31, Tryz.ntmps31
    go_wp2_with (go_at_call 49; (with_reducible refine (nof_e (m := z.natAbs) (by omega) (by omega)).mono ?_); rintro e w1 ⟨A1, k1, c1, rfl, h1, x1, n1⟩; obtain ⟨z1, zf1⟩ := box_new x1; have hE := ext_new x1; simp at n1)
    refine bodyPost_ret (v := .agg #[.slice A1 k1 c1]) (by simp [results, Tryz.results31, go_sem, World.cell?_setCell_same _ _ _ z1]) rfl ?_
    obtain ⟨r1, r2, r3⟩ := res_box (u := .slice A1 k1 c1) hE h1 n1
    exact ⟨_, _, _, rfl, r1, r2, r3⟩

set_option maxHeartbeats 2000000 in
theorem fof_n {n d : Int} {w : World} (hn : -9223372036854775808 ≤ n ∧ n ≤ 9223372036854775807) (hd : -9223372036854775808 ≤ d ∧ d ≤ 9223372036854775807) :
    Calls Tryz.prog 12 #[.int .i64 n, .int .i64 d] w (GivesF w ((n : Rat) / (d : Rat))) := by
  have HL1 := Lib.hid (limbs_i64 hn)
  have HL2 := Lib.hid (limbs_i64 hd)
  have HN := Lib.hid hn
  have HD := Lib.hid hd
  rw [← frac_of]
  clear hn hd
  go_enter Tryz.func12, Tryz.ntmps12
  go_upto_region 1 with (fail)
  have hF0 := FBox.new w (.bool false) (.slice none 0 0) (.slice none 0 0) 27
  have x0 : Ext w (w.alloc (.cells #[.bool false, .slice none 0 0, .slice none 0 0] 27)) := ext_alloc (Below.refl _ _) _
  have hs0 : w.heap.size + 1 ≤ (w.alloc (.cells #[.bool false, .slice none 0 0, .slice none 0 0] 27)).heap.size := by simp
  generalize w.alloc (.cells #[.bool false, .slice none 0 0, .slice none 0 0] 27) = W0 at *
  have HF := Lib.hid (fun (w' : World) (h : Ext W0 w') => hF0.below h)
  have HE := Lib.hid x0
  clear hF0 x0
  have f0 : Ext W0 W0 := Below.refl _ _
  go_wp2_with (first
    | (go_at_call 31; (with_reducible refine (mag_n HN.out).mono ?_); rintro e s1 ⟨A1, k1, c1, rfl, h1, z1, _⟩; have f1 : Ext W0 s1 := Ext.trans (by first | ((repeat first | assumption | exact Below.refl _ _ | refine ext_alloc ?_ _ | refine ext_drew ?_ | refine ext_set ?_ (by first | omega | (simp; done) | (simp; omega)) _); done) | fail) z1; have HP1 := Lib.hid (fun (w' : World) (h : Ext s1 w') => CanV.nat (CanV.below h1 h) (by have := HL1.out; unfold Fit; omega)))
    | (go_at_call 31; (with_reducible refine (mag_n HD.out).mono ?_); rintro e s2 ⟨A2, k2, c2, rfl, h2, z2, _⟩; have f2 : Ext W0 s2 := Ext.trans (by first | ((repeat first | assumption | exact Below.refl _ _ | refine ext_alloc ?_ _ | refine ext_drew ?_ | refine ext_set ?_ (by first | omega | (simp; done) | (simp; omega)) _); done) | fail) z2)
    | (go_at_call 30; (with_reducible refine (made_n (HP1.out _ z2) (CanV.nat h2 (by have := HL2.out; unfold Fit; omega)) (by have := HL1.out; omega) (by have := HL2.out; omega)).mono ?_); rintro e s3 ⟨b3, A3, k3, c3, B3, l3, d3, rfl, h3, z3, n3, m3⟩; have f3 : Ext W0 s3 := Ext.trans (by first | ((repeat first | assumption | exact Below.refl _ _ | refine ext_alloc ?_ _ | refine ext_drew ?_ | refine ext_set ?_ (by first | omega | (simp; done) | (simp; omega)) _); done) | fail) z3; obtain ⟨r0, r1, r2, g0, g1, g2⟩ := HF.out _ f3))
  obtain ⟨q0, q1, q2⟩ := set3 r0 r1 r2 (.bool b3) (.slice A3 k3 c3) (.slice B3 l3 d3)
  refine bodyPost_ret (v := .agg #[.bool b3, .slice A3 k3 c3, .slice B3 l3 d3]) (by simp [results, Tryz.results12, go_sem, q0, q1, q2]) rfl ?_
  exact GivesF.box (B := w.heap.size) (HE.out.trans f3) h3 (n3.mono (by have := f2.size; omega)) (m3.mono (by have := f2.size; omega)) (by omega)
set_option maxHeartbeats 2000000 in
theorem norm_f {b : Bool} {s t : Value} {q : Rat} {L : Nat} {w : World} (hx : AnyF w b s t q L) (hL : L ≤ 549755813887) :
    Calls Tryz.prog 37 #[.agg #[.bool b, s, t]] w (GivesF w q) := by
  obtain ⟨n, d, hn, hd, rfl, ln, ld⟩ := hx
  have HL1 := Lib.hid ln
  have HL2 := Lib.hid ld
  clear ln ld
  go_enter Tryz.func37, Tryz.ntmps37
  go_upto_region 1 with (fail)
  have hX0 := FBox.new w (.bool b) s t 27
  have hF0 := FBox.new (w.alloc (.cells #[.bool b, s, t] 27)) (.bool false) (.slice none 0 0) (.slice none 0 0) 27
  have hX1 := hX0.below (ext_alloc (Below.refl _ _) (.cells #[.bool false, .slice none 0 0, .slice none 0 0] 27))
  have x0 : Ext w ((w.alloc (.cells #[.bool b, s, t] 27)).alloc (.cells #[.bool false, .slice none 0 0, .slice none 0 0] 27)) := ext_alloc (ext_alloc (Below.refl _ _) _) _
  have hs0 : w.heap.size + 1 + 1 ≤ ((w.alloc (.cells #[.bool b, s, t] 27)).alloc (.cells #[.bool false, .slice none 0 0, .slice none 0 0] 27)).heap.size := by simp
  rw [show (w.alloc (.cells #[.bool b, s, t] 27)).heap.size = w.heap.size + 1 from by simp] at hF0
  clear hX0
  generalize (w.alloc (.cells #[.bool b, s, t] 27)).alloc (.cells #[.bool false, .slice none 0 0, .slice none 0 0] 27) = W0 at *
  have HF := Lib.hid (fun (w' : World) (h : Ext W0 w') => hF0.below h)
  have HE := Lib.hid x0
  obtain ⟨cx0, cx1, cx2, _, _, _⟩ := hX1
  have f0 : Ext W0 W0 := Below.refl _ _
  clear hF0
  have HN := Lib.hid (hn.below x0)
  have HD := Lib.hid (hd.below x0)
  clear x0 hn hd
  go_wp2_with (go_at_call 30; (with_reducible refine (made_n HN.out HD.out (by have := HL1.out; omega) (by have := HL2.out; omega)).mono ?_); rintro e s3 ⟨b3, A3, k3, c3, B3, l3, d3, rfl, h3, z3, n3, m3⟩; have f3 : Ext W0 s3 := Ext.trans (by first | ((repeat first | assumption | exact Below.refl _ _ | refine ext_alloc ?_ _ | refine ext_drew ?_ | refine ext_set ?_ (by first | omega | (simp; done) | (simp; omega)) _); done) | fail) z3; obtain ⟨r0, r1, r2, g0, g1, g2⟩ := HF.out _ f3)
  obtain ⟨q0, q1, q2⟩ := set3 r0 r1 r2 (.bool b3) (.slice A3 k3 c3) (.slice B3 l3 d3)
  refine bodyPost_ret (v := .agg #[.bool b3, .slice A3 k3 c3, .slice B3 l3 d3]) (by simp [results, Tryz.results37, go_sem, q0, q1, q2]) rfl ?_
  exact GivesF.box (B := w.heap.size + 1) (HE.out.trans f3) h3 (n3.mono (by have := f0.size; omega)) (m3.mono (by have := f0.size; omega)) (by omega)

end Go.Proofs.YtbplkienkhinmaaGreatDoor
namespace Go.Proofs.YtbplkienkhinmaaGreatDoor
open Go.RowKit Num

end Go.Proofs.YtbplkienkhinmaaGreatDoor
