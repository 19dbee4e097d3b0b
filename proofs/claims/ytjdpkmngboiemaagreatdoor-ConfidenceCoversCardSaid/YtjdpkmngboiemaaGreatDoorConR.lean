/- The walk of OccupancyTails. The references' Sign, Cmp, limits, Alpha, Accepts. The reference: Accepts, Set, Range, Ratio. The reference: Likeliest. -/
import Derived.Test.YtjdpkmngboiemaaGreatDoorOcW
import Derived.Test.YtjdpkmngboiemaaGreatDoorOcRT
import Derived.Test.YtjdpkmngboiemaaGreatDoorConP
import Derived.Test.YtjdpkmngboiemaaGreatDoorConC
import Derived.Test.YtjdpkmngboiemaaGreatDoorRFracN
import Derived.Test.YtjdpkmngboiemaaGreatDoorRFracD
import Derived.Test.YtjdpkmngboiemaaGreatDoorOcRD
import Derived.Test.YtjdpkmngboiemaaGreatDoorFrlS
set_option linter.unusedVariables false
set_option linter.unusedSimpArgs false
set_option maxRecDepth 100000
namespace Go.Proofs.YtjdpkmngboiemaaGreatDoor
open Go.RowKit Num

theorem sumTo_cut (f : Nat → Nat) (m : Nat) : ∀ N, m ≤ N → sumTo (fun i => if i < m then f i else 0) N = sumTo f m
  | 0, h => by rw [show m = 0 from by omega]; rfl
  | N + 1, h => by
    rw [sumTo_succ]
    by_cases e : m = N + 1
    · subst e
      rw [if_pos (by omega), sumTo_succ]
      congr 1
      exact sumTo_congr fun k hk => if_pos (by omega)
    · rw [if_neg (by omega), Nat.add_zero, sumTo_cut f m N (by omega)]
theorem tail_most (n D : Nat) (d : Int) : sumTo (tailF n D 0 d) (n + 1) = sumTo (occ n D) (mostN n d) := by
  rw [← sumTo_cut (occ n D) (mostN n d) (n + 1) (by unfold mostN; omega)]
  refine sumTo_congr fun k hk => ?_
  unfold tailF mostN
  by_cases h : (k : Int) ≤ d
  · rw [if_pos ⟨by omega, h⟩, if_pos (by omega)]
  · rw [if_neg (by omega), if_neg (by omega)]
theorem tail_least (n D : Nat) (d : Int) : sumTo (tailF n D d n) (n + 1) = D ^ n - sumTo (occ n D) (min d.toNat (n + 1)) := by
  have h1 : sumTo (tailF n D d n) (n + 1) + sumTo (occ n D) (min d.toNat (n + 1)) = D ^ n := by
    rw [← sumTo_cut (occ n D) (min d.toNat (n + 1)) (n + 1) (Nat.min_le_right _ _), ← sumTo_add, ← occ_sum]
    refine sumTo_congr fun k hk => ?_
    unfold tailF
    by_cases h : d ≤ (k : Int)
    · rw [if_pos ⟨h, by omega⟩, if_neg (by omega)]; omega
    · rw [if_neg (by omega), if_pos (by omega)]; omega
  omega

end Go.Proofs.YtjdpkmngboiemaaGreatDoor
namespace Go.Proofs.YtjdpkmngboiemaaGreatDoor
open Go.RowKit Num

set_option maxHeartbeats 4000000 in
theorem rsign_f {b : Bool} {s t : Value} {q : Rat} {L : Nat} {w : World} (hx : AnyF w b s t q L) (hL : L ≤ 549755813000) :
    Calls Tryz.prog 41 #[.agg #[.bool b, s, t]] w (fun e w' => e = .returned (.int .i64 (sgnQ q)) ∧ Ext w w') := by
  by_cases hL1 : 1 ≤ L
  · have HFQ := Lib.hid (hx.fb hL1)
    have hcase : q = 0 ∨ (q ≠ 0 ∧ q < 0) ∨ (q ≠ 0 ∧ ¬ q < 0) := by
      by_cases h0 : q = 0
      · exact .inl h0
      · by_cases h1 : q < 0
        · exact .inr (.inl ⟨h0, h1⟩)
        · exact .inr (.inr ⟨h0, h1⟩)
    rcases hcase with h0 | ⟨h0, h1⟩ | ⟨h0, h1⟩
    · have HSG := Lib.hid (show sgnQ q = 0 from by rw [h0]; rfl)
      have HN0 := Lib.hid (show q.num.natAbs = 0 from by rw [h0]; rfl)
      rw [HSG.out]
      clear h0
      go_enter Tryz.func41, Tryz.ntmps41
      go_upto_region 1 with (fail)
      have hB0 := FBox.new w (.bool b) (s) (t) 28
      have x0 : Ext w (w.alloc (.cells #[.bool b, s, t] 28)) := ext_alloc (Below.refl _ _) _
      have hs0 : w.heap.size + 1 ≤ (w.alloc (.cells #[.bool b, s, t] 28)).heap.size := by simp
      generalize (w.alloc (.cells #[.bool b, s, t] 28)) = W0 at *
      have HB0 := Lib.hid (fun (w' : World) (h : Ext W0 w') => hB0.below h)
      obtain ⟨c00, c01, c02, d00, d01, d02⟩ := hB0
      have HE := Lib.hid x0
      clear x0
      have f0 : Ext W0 W0 := Below.refl _ _
      have HY := Lib.hid (hx.below HE.out)
      clear hx
      go_upto_region 2 with (go_at_call 64; (with_reducible refine (rnorm_f HY.out (by omega)).mono ?_); rintro e s1 ⟨b1, A1, k1, l1, B1, m1, o1, rfl, h1, z1, n1, n1'⟩; have f1 : Ext W0 s1 := Ext.trans (by first | ((repeat first | assumption | exact Below.refl _ _ | refine ext_alloc ?_ _ | refine ext_drew ?_ | refine ext_set ?_ (by first | omega | (simp; done) | (simp; omega)) _); done) | fail) z1; obtain ⟨c00, c01, c02, d00, d01, d02⟩ := HB0.out _ f1)
      have P0 := FBox.put (HB0.out _ f1) (.bool b1) (.slice A1 k1 l1) (.slice B1 m1 o1)
      have V1 := FracV.put (b := w.heap.size) (h1) (n1) (n1') (by omega) (.bool b1) (.slice A1 k1 l1) (.slice B1 m1 o1)
      have E1 := ext_put (b := w.heap.size) (HE.out.trans f1) (by omega) (.bool b1) (.slice A1 k1 l1) (.slice B1 m1 o1)
      generalize ((s1.setCell ⟨w.heap.size, 0, none⟩ (.bool b1)).setCell ⟨w.heap.size, 1, none⟩ (.slice A1 k1 l1)).setCell ⟨w.heap.size, 2, none⟩ (.slice B1 m1 o1) = W1 at *
      have HE1 := Lib.hid E1
      have HN := Lib.hid (V1.2.1.nat (Nat.le_trans HFQ.out.1 (by omega)))
      rw [HN0.out] at HN
      obtain ⟨p0, p1, p2, _, _, _⟩ := P0
      have e1 : Ext W1 W1 := Below.refl _ _
      clear c00 c01 c02 d00 d01 d02 n1 n1' z1 E1 V1 h1
      go_wp2_with (go_at_call 65; (with_reducible refine (rzero_t HN.out).mono ?_); rintro e s2 ⟨rfl, z2⟩; have f2 : Ext W1 s2 := Ext.trans (by first | ((repeat first | assumption | exact Below.refl _ _ | refine ext_alloc ?_ _ | refine ext_drew ?_ | refine ext_set ?_ (by first | omega | (simp; done) | (simp; omega)) _); done) | fail) z2)
      go_ret
      exact ⟨rfl, HE1.out.trans f2⟩
    · have HSG := Lib.hid (show sgnQ q = -1 from if_pos h1)
      have HB := Lib.hid (show decide (q < 0) = true from decide_eq_true h1)
      have HN0 := Lib.hid (num_ne h0)
      rw [HSG.out]
      clear h0 h1
      go_enter Tryz.func41, Tryz.ntmps41
      go_upto_region 1 with (fail)
      have hB0 := FBox.new w (.bool b) (s) (t) 28
      have x0 : Ext w (w.alloc (.cells #[.bool b, s, t] 28)) := ext_alloc (Below.refl _ _) _
      have hs0 : w.heap.size + 1 ≤ (w.alloc (.cells #[.bool b, s, t] 28)).heap.size := by simp
      generalize (w.alloc (.cells #[.bool b, s, t] 28)) = W0 at *
      have HB0 := Lib.hid (fun (w' : World) (h : Ext W0 w') => hB0.below h)
      obtain ⟨c00, c01, c02, d00, d01, d02⟩ := hB0
      have HE := Lib.hid x0
      clear x0
      have f0 : Ext W0 W0 := Below.refl _ _
      have HY := Lib.hid (hx.below HE.out)
      clear hx
      go_upto_region 2 with (go_at_call 64; (with_reducible refine (rnorm_f HY.out (by omega)).mono ?_); rintro e s1 ⟨b1, A1, k1, l1, B1, m1, o1, rfl, h1, z1, n1, n1'⟩; have f1 : Ext W0 s1 := Ext.trans (by first | ((repeat first | assumption | exact Below.refl _ _ | refine ext_alloc ?_ _ | refine ext_drew ?_ | refine ext_set ?_ (by first | omega | (simp; done) | (simp; omega)) _); done) | fail) z1; obtain ⟨c00, c01, c02, d00, d01, d02⟩ := HB0.out _ f1)
      obtain rfl : b1 = true := by rw [h1.1]; exact HB.out
      have P0 := FBox.put (HB0.out _ f1) (.bool true) (.slice A1 k1 l1) (.slice B1 m1 o1)
      have V1 := FracV.put (b := w.heap.size) (h1) (n1) (n1') (by omega) (.bool true) (.slice A1 k1 l1) (.slice B1 m1 o1)
      have E1 := ext_put (b := w.heap.size) (HE.out.trans f1) (by omega) (.bool true) (.slice A1 k1 l1) (.slice B1 m1 o1)
      generalize ((s1.setCell ⟨w.heap.size, 0, none⟩ (.bool true)).setCell ⟨w.heap.size, 1, none⟩ (.slice A1 k1 l1)).setCell ⟨w.heap.size, 2, none⟩ (.slice B1 m1 o1) = W1 at *
      have HE1 := Lib.hid E1
      have HP := Lib.hid (fun (w' : World) (h : Ext W1 w') => P0.below h)
      have HN := Lib.hid (V1.2.1.nat (Nat.le_trans HFQ.out.1 (by omega)))
      obtain ⟨p0, p1, p2, _, _, _⟩ := P0
      have e1 : Ext W1 W1 := Below.refl _ _
      clear c00 c01 c02 d00 d01 d02 n1 n1' z1 E1 V1 h1
      go_wp2_with (go_at_call 65; (with_reducible refine (rzero_f HN.out HN0.out).mono ?_); rintro e s2 ⟨rfl, z2⟩; have f2 : Ext W1 s2 := Ext.trans (by first | ((repeat first | assumption | exact Below.refl _ _ | refine ext_alloc ?_ _ | refine ext_drew ?_ | refine ext_set ?_ (by first | omega | (simp; done) | (simp; omega)) _); done) | fail) z2; obtain ⟨p0, p1, p2, _, _, _⟩ := HP.out _ f2)
      go_ret
      exact ⟨rfl, HE1.out.trans f2⟩
    · have HSG := Lib.hid (show sgnQ q = 1 from by unfold sgnQ; rw [if_neg h1, if_pos (by grind)])
      have HB := Lib.hid (show decide (q < 0) = false from decide_eq_false h1)
      have HN0 := Lib.hid (num_ne h0)
      rw [HSG.out]
      clear h0 h1
      go_enter Tryz.func41, Tryz.ntmps41
      go_upto_region 1 with (fail)
      have hB0 := FBox.new w (.bool b) (s) (t) 28
      have x0 : Ext w (w.alloc (.cells #[.bool b, s, t] 28)) := ext_alloc (Below.refl _ _) _
      have hs0 : w.heap.size + 1 ≤ (w.alloc (.cells #[.bool b, s, t] 28)).heap.size := by simp
      generalize (w.alloc (.cells #[.bool b, s, t] 28)) = W0 at *
      have HB0 := Lib.hid (fun (w' : World) (h : Ext W0 w') => hB0.below h)
      obtain ⟨c00, c01, c02, d00, d01, d02⟩ := hB0
      have HE := Lib.hid x0
      clear x0
      have f0 : Ext W0 W0 := Below.refl _ _
      have HY := Lib.hid (hx.below HE.out)
      clear hx
      go_upto_region 2 with (go_at_call 64; (with_reducible refine (rnorm_f HY.out (by omega)).mono ?_); rintro e s1 ⟨b1, A1, k1, l1, B1, m1, o1, rfl, h1, z1, n1, n1'⟩; have f1 : Ext W0 s1 := Ext.trans (by first | ((repeat first | assumption | exact Below.refl _ _ | refine ext_alloc ?_ _ | refine ext_drew ?_ | refine ext_set ?_ (by first | omega | (simp; done) | (simp; omega)) _); done) | fail) z1; obtain ⟨c00, c01, c02, d00, d01, d02⟩ := HB0.out _ f1)
      obtain rfl : b1 = false := by rw [h1.1]; exact HB.out
      have P0 := FBox.put (HB0.out _ f1) (.bool false) (.slice A1 k1 l1) (.slice B1 m1 o1)
      have V1 := FracV.put (b := w.heap.size) (h1) (n1) (n1') (by omega) (.bool false) (.slice A1 k1 l1) (.slice B1 m1 o1)
      have E1 := ext_put (b := w.heap.size) (HE.out.trans f1) (by omega) (.bool false) (.slice A1 k1 l1) (.slice B1 m1 o1)
      generalize ((s1.setCell ⟨w.heap.size, 0, none⟩ (.bool false)).setCell ⟨w.heap.size, 1, none⟩ (.slice A1 k1 l1)).setCell ⟨w.heap.size, 2, none⟩ (.slice B1 m1 o1) = W1 at *
      have HE1 := Lib.hid E1
      have HP := Lib.hid (fun (w' : World) (h : Ext W1 w') => P0.below h)
      have HN := Lib.hid (V1.2.1.nat (Nat.le_trans HFQ.out.1 (by omega)))
      obtain ⟨p0, p1, p2, _, _, _⟩ := P0
      have e1 : Ext W1 W1 := Below.refl _ _
      clear c00 c01 c02 d00 d01 d02 n1 n1' z1 E1 V1 h1
      go_wp2_with (go_at_call 65; (with_reducible refine (rzero_f HN.out HN0.out).mono ?_); rintro e s2 ⟨rfl, z2⟩; have f2 : Ext W1 s2 := Ext.trans (by first | ((repeat first | assumption | exact Below.refl _ _ | refine ext_alloc ?_ _ | refine ext_drew ?_ | refine ext_set ?_ (by first | omega | (simp; done) | (simp; omega)) _); done) | fail) z2; obtain ⟨p0, p1, p2, _, _, _⟩ := HP.out _ f2)
      go_ret
      exact ⟨rfl, HE1.out.trans f2⟩
  · exact rsign_f (L := 1) (by
      obtain ⟨n, d, g1, g2, g3, g4, g5⟩ := hx
      exact ⟨n, d, g1, g2, g3, by omega, by omega⟩) (by omega)
  termination_by 1 - L

set_option maxHeartbeats 4000000 in
theorem rcmp_e {b b' : Bool} {s t s' t' : Value} {p q : Rat} {L M : Nat} {z : Int} {w : World} (hx : AnyF w b s t p L) (hy : AnyF w b' s' t' q M) (hL1 : 1 ≤ L) (hM1 : 1 ≤ M) (hL : L + M ≤ 549755812000) (hz : cmpQ p q = z) :
    Calls Tryz.prog 36 #[.agg #[.bool b, s, t], .agg #[.bool b', s', t']] w (fun e w' => e = .returned (.int .i64 z) ∧ Ext w w') := by
  have HX := Lib.hid (fun (w' : World) (h : Ext w w') => hx.below h)
  have HY := Lib.hid (fun (w' : World) (h : Ext w w') => hy.below h)
  have HF1 := Lib.hid (hx.fb hL1)
  have HF2 := Lib.hid (hy.fb hM1)
  have HF3 := Lib.hid (FB.sub HF1.out HF2.out hL1)
  rw [cmpQ_sub] at hz
  obtain ⟨r, hr⟩ : ∃ r, p - q = r := ⟨_, rfl⟩
  rw [hr] at hz HF3
  have HR := Lib.hid hr
  have HZ := Lib.hid hz
  clear hx hy hr hz
  go_enter Tryz.func36, Tryz.ntmps36
  go_upto_region 1 with (fail)
  have hB0 := (FBox.new w (.bool b) (s) (t) 28).below (ext_alloc (Below.refl _ _) (.cells #[.bool b', s', t'] 28))
  have hB1 := FBox.new (w.alloc (.cells #[.bool b, s, t] 28)) (.bool b') (s') (t') 28
  rw [show (w.alloc (.cells #[.bool b, s, t] 28)).heap.size = w.heap.size + 1 from by simp] at hB1
  have x0 : Ext w ((w.alloc (.cells #[.bool b, s, t] 28)).alloc (.cells #[.bool b', s', t'] 28)) := ext_alloc (ext_alloc (Below.refl _ _) _) _
  have hs0 : w.heap.size + 1 + 1 ≤ ((w.alloc (.cells #[.bool b, s, t] 28)).alloc (.cells #[.bool b', s', t'] 28)).heap.size := by simp
  generalize ((w.alloc (.cells #[.bool b, s, t] 28)).alloc (.cells #[.bool b', s', t'] 28)) = W0 at *
  have HB0 := Lib.hid (fun (w' : World) (h : Ext W0 w') => hB0.below h)
  obtain ⟨c00, c01, c02, d00, d01, d02⟩ := hB0
  have HB1 := Lib.hid (fun (w' : World) (h : Ext W0 w') => hB1.below h)
  obtain ⟨c10, c11, c12, d10, d11, d12⟩ := hB1
  have HE := Lib.hid x0
  clear x0
  have f0 : Ext W0 W0 := Below.refl _ _
  go_wp2_with (first
    | (go_at_call 62; (with_reducible refine (rsub_f (HX.out _ HE.out) (HY.out _ HE.out) HF1.out HF2.out (by omega)).mono ?_); rw [HR.out]; rintro _ s2 ⟨b2, A2, k2, c2, B2, l2, d2, rfl, h2, z2, _⟩)
    | (go_at_call 41; (with_reducible refine (rsign_f (FracV.any h2 HF3.out (by omega)) (by omega)).mono ?_); rw [HZ.out]; rintro _ s3 ⟨rfl, z3⟩))
  go_ret
  exact ⟨rfl, HE.out.trans (z2.trans z3)⟩

theorem rlimits_n {n d D : Int} {w : World} : Calls Tryz.prog 31 #[.int .i64 n, .int .i64 d, .int .i64 D] w (fun e w' => e = .returned (.bool (decide (DIn n d D))) ∧ w' = w) := by
  by_cases h1 : 1 ≤ n ∧ n ≤ 24
  · by_cases h2 : 1 ≤ d ∧ d ≤ n
    · by_cases h3 : 1 ≤ D ∧ D ≤ 60
      · rw [show decide (DIn n d D) = true from decide_eq_true ⟨⟨h1, h2⟩, h3⟩]
        go_enter Tryz.func31, Tryz.ntmps31
        go_wp2_with (first
          | (go_at_call 56; (with_reducible refine (rin_t (n := n) (low := 1) (high := 24) (by omega) (by omega)).mono ?_); rintro e w1 ⟨rfl, rfl⟩)
          | (go_at_call 56; (with_reducible refine (rin_t (n := d) (low := 1) (high := n) (by omega) (by omega)).mono ?_); rintro e w1 ⟨rfl, rfl⟩)
          | (go_at_call 56; (with_reducible refine (rin_t (n := D) (low := 1) (high := 60) (by omega) (by omega)).mono ?_); rintro e w1 ⟨rfl, rfl⟩))
        go_ret
        exact ⟨rfl, rfl⟩
      · rw [show decide (DIn n d D) = false from decide_eq_false fun h => h3 h.2]
        have h3 : D < 1 ∨ 60 < D := by omega
        go_enter Tryz.func31, Tryz.ntmps31
        go_wp2_with (first
          | (go_at_call 56; (with_reducible refine (rin_t (n := n) (low := 1) (high := 24) (by omega) (by omega)).mono ?_); rintro e w1 ⟨rfl, rfl⟩)
          | (go_at_call 56; (with_reducible refine (rin_t (n := d) (low := 1) (high := n) (by omega) (by omega)).mono ?_); rintro e w1 ⟨rfl, rfl⟩)
          | (go_at_call 56; (with_reducible refine (rin_f (n := D) (low := 1) (high := 60) (by omega)).mono ?_); rintro e w1 ⟨rfl, rfl⟩))
        go_ret
        exact ⟨rfl, rfl⟩
    · rw [show decide (DIn n d D) = false from decide_eq_false fun h => h2 h.1.2]
      have h2 : d < 1 ∨ n < d := by omega
      go_enter Tryz.func31, Tryz.ntmps31
      go_wp2_with (first
        | (go_at_call 56; (with_reducible refine (rin_t (n := n) (low := 1) (high := 24) (by omega) (by omega)).mono ?_); rintro e w1 ⟨rfl, rfl⟩)
        | (go_at_call 56; (with_reducible refine (rin_f (n := d) (low := 1) (high := n) (by omega)).mono ?_); rintro e w1 ⟨rfl, rfl⟩))
      go_ret
      exact ⟨rfl, rfl⟩
  · rw [show decide (DIn n d D) = false from decide_eq_false fun h => h1 h.1.1]
    have h1 : n < 1 ∨ 24 < n := by omega
    go_enter Tryz.func31, Tryz.ntmps31
    go_wp2_with (go_at_call 56; (with_reducible refine (rin_f (n := n) (low := 1) (high := 24) (by omega)).mono ?_); rintro e w1 ⟨rfl, rfl⟩)
    go_ret
    exact ⟨rfl, rfl⟩

theorem rlimits_t {n d D : Int} (h : DIn n d D) (w : World) : Calls Tryz.prog 31 #[.int .i64 n, .int .i64 d, .int .i64 D] w (fun e w' => e = .returned (.bool true) ∧ w' = w) := by
  have h0 := rlimits_n (n := n) (d := d) (D := D) (w := w)
  rw [decide_eq_true h] at h0
  exact h0
theorem rlimits_f {n d D : Int} (h : ¬ DIn n d D) (w : World) : Calls Tryz.prog 31 #[.int .i64 n, .int .i64 d, .int .i64 D] w (fun e w' => e = .returned (.bool false) ∧ w' = w) := by
  have h0 := rlimits_n (n := n) (d := d) (D := D) (w := w)
  rw [decide_eq_false h] at h0
  exact h0

set_option maxHeartbeats 4000000 in
theorem ralpha_n {b : Bool} {s t : Value} {q : Rat} {L : Nat} {w : World} (hx : AnyF w b s t q L) (hL1 : 1 ≤ L) (hL : L ≤ 1000) :
    Calls Tryz.prog 21 #[.agg #[.bool b, s, t]] w (fun e w' => e = .returned (.bool (decide (Lvl q))) ∧ Ext w w') := by
  have HX := Lib.hid (fun (w' : World) (h : Ext w w') => hx.below h)
  clear hx
  have HLV := Lib.hid (show Lvl q ↔ (0 < sgnQ q ∧ cmpQ q one1 < 0) from by
    have e : one1 = 1 := by decide +kernel
    rw [cmpQ_neg, sgnQ_pos, e]; exact Iff.rfl)
  obtain ⟨z, hz⟩ : ∃ z, sgnQ q = z := ⟨_, rfl⟩
  obtain ⟨y, hy⟩ : ∃ y, cmpQ q one1 = y := ⟨_, rfl⟩
  rw [hz, hy] at HLV
  have H1 := Lib.hid hz
  have H2 := Lib.hid hy
  clear hz hy
  by_cases hs : 0 < z
  · have hs1 : decide (0 < z) = true := decide_eq_true hs
    have HLB := Lib.hid (show decide (Lvl q) = decide (y < 0) from by
      by_cases h : y < 0
      · rw [decide_eq_true h, decide_eq_true (HLV.out.2 ⟨hs, h⟩)]
      · rw [decide_eq_false h, decide_eq_false (fun h' => h (HLV.out.1 h').2)])
    rw [HLB.out]
    clear hs
    go_enter Tryz.func21, Tryz.ntmps21
    go_upto_region 1 with (fail)
    have hB0 := FBox.new w (.bool b) (s) (t) 28
    have x0 : Ext w (w.alloc (.cells #[.bool b, s, t] 28)) := ext_alloc (Below.refl _ _) _
    have hs0 : w.heap.size + 1 ≤ (w.alloc (.cells #[.bool b, s, t] 28)).heap.size := by simp
    generalize (w.alloc (.cells #[.bool b, s, t] 28)) = W0 at *
    have HB0 := Lib.hid (fun (w' : World) (h : Ext W0 w') => hB0.below h)
    obtain ⟨c00, c01, c02, d00, d01, d02⟩ := hB0
    have HE := Lib.hid x0
    clear x0
    have f0 : Ext W0 W0 := Below.refl _ _
    have HS := Lib.hid (fun (w' : World) (h : Ext W0 w') => (⟨(HB0.out _ h).1, (HB0.out _ h).2.1, (HB0.out _ h).2.2.1⟩ : w'.cell? ⟨w.heap.size, 0, none⟩ = some (.bool b) ∧ w'.cell? ⟨w.heap.size, 1, none⟩ = some s ∧ w'.cell? ⟨w.heap.size, 2, none⟩ = some t))
    refine wp_region_G (fun w' => Ext W0 w') [9] (by kernel_rfl) ?_
    have gS : Ext W0 W0.drew := (Below.refl _ _).drew
    refine wpAnyG_take 0 (v := ?_) rfl (by kernel_rfl) (by kernel_rfl) (by kernel_rfl) (by kernel_rfl) (by rfl) (by kernel_rfl) (fun _ _ _ h => h) (by rfl) (fun w' hw' => ?_) gS ?_
    rotate_left
    focus (have hh := HS.out _ hw'; go_split_ands; go_simp; (try with_reducible rfl); done)
    (try simp only [Act.put, List.setIfInBounds_toArray, List.set_cons_zero, List.set_cons_succ])
    refine wpAnyG_one 1 (by kernel_rfl) rfl (by rfl) (fun K hK => ?_)
    go_simp
    go_at_call 41
    refine (rsign_f (HX.out _ (HE.out.trans gS)) (by omega)).mono ?_
    rw [H1.out]
    rintro _ s1 ⟨rfl, z1⟩
    have gS : Ext W0 s1 := Ext.trans gS z1
    (try go_wp2_with fail)
    refine hK.out _ _ (fun _ => gS) ?_
    clear hK K
    (try simp only [Act.put, List.setIfInBounds_toArray, List.set_cons_zero, List.set_cons_succ])
    refine wpAnyG_take 2 (v := ?_) rfl (by kernel_rfl) (by kernel_rfl) (by kernel_rfl) (by kernel_rfl) (by rfl) (by kernel_rfl) (fun _ _ _ h => h) (by rfl) (fun w' hw' => ?_) gS ?_
    rotate_left
    focus (go_simp; (try with_reducible rfl); done)
    (try simp only [Act.put, List.setIfInBounds_toArray, List.set_cons_zero, List.set_cons_succ])
    refine wpAnyG_take 3 (v := ?_) rfl (by kernel_rfl) (by kernel_rfl) (by kernel_rfl) (by kernel_rfl) (by rfl) (by kernel_rfl) (fun _ _ _ h => h) (by rfl) (fun w' hw' => ?_) gS ?_
    rotate_left
    focus (go_simp; (try with_reducible rfl); done)
    (try simp only [Act.put, List.setIfInBounds_toArray, List.set_cons_zero, List.set_cons_succ])
    refine wpAnyG_take 4 (v := ?_) rfl (by kernel_rfl) (by kernel_rfl) (by kernel_rfl) (by kernel_rfl) (by rfl) (by kernel_rfl) (fun _ _ _ h => h) (by rfl) (fun w' hw' => ?_) gS ?_
    rotate_left
    focus (have hh := HS.out _ hw'; go_split_ands; go_simp; (try with_reducible rfl); done)
    (try simp only [Act.put, List.setIfInBounds_toArray, List.set_cons_zero, List.set_cons_succ])
    refine wpAnyG_one 5 (by kernel_rfl) rfl (by rfl) (fun K hK => ?_)
    go_simp
    go_at_call 33
    refine (rfof_n (n := 1) (d := 1) (by omega) (by omega)).mono ?_
    rintro _ s3 ⟨b3, A3, k3, c3, B3, l3, d3, rfl, h3, z3, _, _⟩
    have h3 : FracV s3 b3 (.slice A3 k3 c3) (.slice B3 l3 d3) one1 := h3
    have gS : Ext W0 s3 := Ext.trans gS z3
    (try go_wp2_with fail)
    refine hK.out _ _ (fun _ => gS) ?_
    clear hK K
    (try simp only [Act.put, List.setIfInBounds_toArray, List.set_cons_zero, List.set_cons_succ])
    refine wpAnyG_one 6 (by kernel_rfl) rfl (by rfl) (fun K hK => ?_)
    go_simp
    go_at_call 36
    refine (rcmp_e (HX.out _ (HE.out.trans gS)) (FracV.any h3 one1_fb (by omega)) hL1 (by omega) (by omega) H2.out).mono ?_
    rintro _ s4 ⟨rfl, z4⟩
    have gS : Ext W0 s4 := Ext.trans gS z4
    have f4 := gS
    (try go_wp2_with fail)
    refine hK.out _ _ (fun _ => gS) ?_
    clear hK K
    (try simp only [Act.put, List.setIfInBounds_toArray, List.set_cons_zero, List.set_cons_succ])
    refine wpAnyG_take 7 (v := ?_) rfl (by kernel_rfl) (by kernel_rfl) (by kernel_rfl) (by kernel_rfl) (by rfl) (by kernel_rfl) (fun _ _ _ h => h) (by rfl) (fun w' hw' => ?_) gS ?_
    rotate_left
    focus (go_simp; (try with_reducible rfl); done)
    (try simp only [Act.put, List.setIfInBounds_toArray, List.set_cons_zero, List.set_cons_succ])
    refine wpAnyG_take 8 (v := ?_) rfl (by kernel_rfl) (by kernel_rfl) (by kernel_rfl) (by kernel_rfl) (by rfl) (by kernel_rfl) (fun _ _ _ h => h) (by rfl) (fun w' hw' => ?_) gS ?_
    rotate_left
    focus (go_simp; (try with_reducible rfl); done)
    (try simp only [Act.put, List.setIfInBounds_toArray, List.set_cons_zero, List.set_cons_succ])
    refine wpAnyG_one 9 (by kernel_rfl) rfl (by rfl) (fun K hK => ?_)
    go_simp
    refine hK.out _ _ (fun h => absurd h (by decide)) ?_
    clear hK K
    (try simp only [Act.put, List.setIfInBounds_toArray, List.set_cons_zero, List.set_cons_succ])
    refine wpAnyG_done (by kernel_rfl) ?_ _
    go_wp2
    go_ret
    exact ⟨rfl, HE.out.trans f4⟩
  · have hs1 : decide (0 < z) = false := decide_eq_false hs
    rw [show decide (Lvl q) = false from decide_eq_false fun h => hs (HLV.out.1 h).1]
    clear hs
    go_enter Tryz.func21, Tryz.ntmps21
    go_upto_region 1 with (fail)
    have hB0 := FBox.new w (.bool b) (s) (t) 28
    have x0 : Ext w (w.alloc (.cells #[.bool b, s, t] 28)) := ext_alloc (Below.refl _ _) _
    have hs0 : w.heap.size + 1 ≤ (w.alloc (.cells #[.bool b, s, t] 28)).heap.size := by simp
    generalize (w.alloc (.cells #[.bool b, s, t] 28)) = W0 at *
    have HB0 := Lib.hid (fun (w' : World) (h : Ext W0 w') => hB0.below h)
    obtain ⟨c00, c01, c02, d00, d01, d02⟩ := hB0
    have HE := Lib.hid x0
    clear x0
    have f0 : Ext W0 W0 := Below.refl _ _
    have HS := Lib.hid (fun (w' : World) (h : Ext W0 w') => (⟨(HB0.out _ h).1, (HB0.out _ h).2.1, (HB0.out _ h).2.2.1⟩ : w'.cell? ⟨w.heap.size, 0, none⟩ = some (.bool b) ∧ w'.cell? ⟨w.heap.size, 1, none⟩ = some s ∧ w'.cell? ⟨w.heap.size, 2, none⟩ = some t))
    refine wp_region_G (fun w' => Ext W0 w') [9] (by kernel_rfl) ?_
    have gS : Ext W0 W0.drew := (Below.refl _ _).drew
    refine wpAnyG_take 0 (v := ?_) rfl (by kernel_rfl) (by kernel_rfl) (by kernel_rfl) (by kernel_rfl) (by rfl) (by kernel_rfl) (fun _ _ _ h => h) (by rfl) (fun w' hw' => ?_) gS ?_
    rotate_left
    focus (have hh := HS.out _ hw'; go_split_ands; go_simp; (try with_reducible rfl); done)
    (try simp only [Act.put, List.setIfInBounds_toArray, List.set_cons_zero, List.set_cons_succ])
    refine wpAnyG_one 1 (by kernel_rfl) rfl (by rfl) (fun K hK => ?_)
    go_simp
    go_at_call 41
    refine (rsign_f (HX.out _ (HE.out.trans gS)) (by omega)).mono ?_
    rw [H1.out]
    rintro _ s1 ⟨rfl, z1⟩
    have gS : Ext W0 s1 := Ext.trans gS z1
    have f4 := gS
    (try go_wp2_with fail)
    refine hK.out _ _ (fun _ => gS) ?_
    clear hK K
    (try simp only [Act.put, List.setIfInBounds_toArray, List.set_cons_zero, List.set_cons_succ])
    refine wpAnyG_take 2 (v := ?_) rfl (by kernel_rfl) (by kernel_rfl) (by kernel_rfl) (by kernel_rfl) (by rfl) (by kernel_rfl) (fun _ _ _ h => h) (by rfl) (fun w' hw' => ?_) gS ?_
    rotate_left
    focus (go_simp; (try with_reducible rfl); done)
    (try simp only [Act.put, List.setIfInBounds_toArray, List.set_cons_zero, List.set_cons_succ])
    refine wpAnyG_take 3 (v := ?_) rfl (by kernel_rfl) (by kernel_rfl) (by kernel_rfl) (by kernel_rfl) (by rfl) (by kernel_rfl) (fun _ _ _ h => h) (by rfl) (fun w' hw' => ?_) gS ?_
    rotate_left
    focus (go_simp; (try with_reducible rfl); done)
    (try simp only [Act.put, List.setIfInBounds_toArray, List.set_cons_zero, List.set_cons_succ])
    refine wpAnyG_skip 4 rfl (by kernel_rfl) (by kernel_rfl) (by kernel_rfl) (by kernel_rfl) (by rfl) (by kernel_rfl) (fun _ _ _ h => h) (by rfl) gS ?_
    (try simp only [Act.put, List.setIfInBounds_toArray, List.set_cons_zero, List.set_cons_succ])
    refine wpAnyG_skip 5 rfl (by kernel_rfl) (by kernel_rfl) (by kernel_rfl) (by kernel_rfl) (by rfl) (by kernel_rfl) (fun _ _ _ h => h) (by rfl) gS ?_
    (try simp only [Act.put, List.setIfInBounds_toArray, List.set_cons_zero, List.set_cons_succ])
    refine wpAnyG_skip 6 rfl (by kernel_rfl) (by kernel_rfl) (by kernel_rfl) (by kernel_rfl) (by rfl) (by kernel_rfl) (fun _ _ _ h => h) (by rfl) gS ?_
    (try simp only [Act.put, List.setIfInBounds_toArray, List.set_cons_zero, List.set_cons_succ])
    refine wpAnyG_skip 7 rfl (by kernel_rfl) (by kernel_rfl) (by kernel_rfl) (by kernel_rfl) (by rfl) (by kernel_rfl) (fun _ _ _ h => h) (by rfl) gS ?_
    (try simp only [Act.put, List.setIfInBounds_toArray, List.set_cons_zero, List.set_cons_succ])
    refine wpAnyG_take 8 (v := ?_) rfl (by kernel_rfl) (by kernel_rfl) (by kernel_rfl) (by kernel_rfl) (by rfl) (by kernel_rfl) (fun _ _ _ h => h) (by rfl) (fun w' hw' => ?_) gS ?_
    rotate_left
    focus (go_simp; (try with_reducible rfl); done)
    (try simp only [Act.put, List.setIfInBounds_toArray, List.set_cons_zero, List.set_cons_succ])
    refine wpAnyG_one 9 (by kernel_rfl) rfl (by rfl) (fun K hK => ?_)
    go_simp
    refine hK.out _ _ (fun h => absurd h (by decide)) ?_
    clear hK K
    (try simp only [Act.put, List.setIfInBounds_toArray, List.set_cons_zero, List.set_cons_succ])
    refine wpAnyG_done (by kernel_rfl) ?_ _
    go_wp2
    go_ret
    exact ⟨rfl, HE.out.trans f4⟩

end Go.Proofs.YtjdpkmngboiemaaGreatDoor
namespace Go.Proofs.YtjdpkmngboiemaaGreatDoor
open Go.RowKit Num

theorem tail_mostQ (n D : Nat) (d : Int) : frac false (sumTo (tailF n D 0 d) (n + 1)) (D ^ n) = mostQ n D d := by rw [tail_most]; rfl
theorem tail_leastQ (n D : Nat) (d : Int) : frac false (sumTo (tailF n D d (n : Int)) (n + 1)) (D ^ n) = leastQ n D d := by rw [tail_least]; rfl
theorem cmp_true {a b : Rat} : decide (0 < cmpQ a b) = decide (b < a) := by
  by_cases h : b < a
  · rw [decide_eq_true h, decide_eq_true ((cmpQ_pos a b).2 h)]
  · rw [decide_eq_false h, decide_eq_false (fun h' => h ((cmpQ_pos a b).1 h'))]

set_option maxHeartbeats 8000000 in
theorem raccepts_in {n d D : Nat} {b : Bool} {s t : Value} {q : Rat} {L : Nat} {w : World} (h1 : 1 ≤ n ∧ n ≤ 24) (h2 : 1 ≤ d ∧ d ≤ n) (h3 : 1 ≤ D ∧ D ≤ 60) (hx : AnyF w b s t q L) (hL1 : 1 ≤ L) (hL : L ≤ 1000) (hq : Lvl q) :
    Calls Tryz.prog 15 #[.int .i64 n, .int .i64 d, .int .i64 D, .agg #[.bool b, s, t]] w (fun e w' => e = .returned (.tuple #[.bool (decide (Acc n d D (q / 2))), .int .i64 0]) ∧ Ext w w') := by
  have HX := Lib.hid (fun (w' : World) (h : Ext w w') => hx.below h)
  have HFH := Lib.hid (FB.mul (hx.fb hL1) half12_fb (by omega))
  have HFM := Lib.hid (mostQ_fb (n := n) (D := D) (d := (d : Int)) (by omega) (by omega))
  have HFL := Lib.hid (leastQ_fb (n := n) (D := D) (d := (d : Int)) (by omega) (by omega))
  have HLI := Lib.hid (fun w => rlimits_t (din_of h1 h2 h3) w)
  have HRA := Lib.hid (fun (w' : World) (h : Ext w w') => (show Calls Tryz.prog 21 #[.agg #[.bool b, s, t]] w' (fun e w'' => e = .returned (.bool true) ∧ Ext w' w'') from by
    have h0 := ralpha_n (HX.out _ h) hL1 hL
    rw [decide_eq_true hq] at h0
    exact h0))
  have HAM := Lib.hid (fun (w' : World) => (show Calls Tryz.prog 34 #[.int .i64 n, .int .i64 D, .int .i64 d] w' (GivesFE w' (mostQ n D (d : Int))) from by
    rw [← tail_mostQ]; exact ratmost_ok (n := n) (D := D) (d := (d : Int)) (by omega) (by omega) (by omega)))
  have HAL := Lib.hid (fun (w' : World) => (show Calls Tryz.prog 35 #[.int .i64 n, .int .i64 D, .int .i64 d] w' (GivesFE w' (leastQ n D (d : Int))) from by
    rw [← tail_leastQ]; exact ratleast_ok (n := n) (D := D) (d := (d : Int)) (by omega) (by omega) (by omega)))
  have HACC := Lib.hid (show Acc n d D (q / 2) ↔ (0 < cmpQ (mostQ n D (d : Int)) (q * half12) ∧ 0 < cmpQ (leastQ n D (d : Int)) (q * half12)) from by
    rw [cmpQ_pos, cmpQ_pos, half_eq]; exact Iff.rfl)
  obtain ⟨x1, hx1⟩ : ∃ x1, cmpQ (mostQ n D (d : Int)) (q * half12) = x1 := ⟨_, rfl⟩
  obtain ⟨x2, hx2⟩ : ∃ x2, cmpQ (leastQ n D (d : Int)) (q * half12) = x2 := ⟨_, rfl⟩
  have HX1 := Lib.hid hx1
  have HX2 := Lib.hid hx2
  rw [hx1, hx2] at HACC
  clear hx hx1 hx2 hq
  go_enter Tryz.func15, Tryz.ntmps15
  go_upto_region 1 with (fail)
  have hB0 := FBox.new w (.bool b) (s) (t) 28
  have x0 : Ext w (w.alloc (.cells #[.bool b, s, t] 28)) := ext_alloc (Below.refl _ _) _
  have hs0 : w.heap.size + 1 ≤ (w.alloc (.cells #[.bool b, s, t] 28)).heap.size := by simp
  generalize (w.alloc (.cells #[.bool b, s, t] 28)) = W0 at *
  have HB0 := Lib.hid (fun (w' : World) (h : Ext W0 w') => hB0.below h)
  obtain ⟨c00, c01, c02, d00, d01, d02⟩ := hB0
  have HE := Lib.hid x0
  clear x0
  have f0 : Ext W0 W0 := Below.refl _ _
  go_wp2_with fail
  refine (HLI.out _).mono ?_
  rintro e w1 ⟨rfl, rfl⟩
  go_wp2_with fail
  refine (HRA.out _ HE.out).mono ?_
  rintro e W8 ⟨rfl, x8⟩
  obtain ⟨c00, c01, c02, _, _, _⟩ := HB0.out _ x8
  have HXV := Lib.hid (fun (w' : World) (h : Ext W8 w') => HX.out _ (HE.out.trans (x8.trans h)))
  have HS := Lib.hid (fun (w' : World) (h : Ext W8 w') => (⟨(HB0.out _ (x8.trans h)).1, (HB0.out _ (x8.trans h)).2.1, (HB0.out _ (x8.trans h)).2.2.1⟩ : w'.cell? ⟨w.heap.size, 0, none⟩ = some (.bool b) ∧ w'.cell? ⟨w.heap.size, 1, none⟩ = some s ∧ w'.cell? ⟨w.heap.size, 2, none⟩ = some t))
  go_upto_region 5 with (fail)
  go_cut [10] (fun mv wx => FBoxAt W8 wx mv (q * half12))
  case first =>
    refine wp_region_G (fun w' => Ext W8 w') [4] (by kernel_rfl) ?_
    have gS : Ext W8 W8.drew := (Below.refl _ _).drew
    refine wpAnyG_take 0 (v := ?_) rfl (by kernel_rfl) (by kernel_rfl) (by kernel_rfl) (by kernel_rfl) (by rfl) (by kernel_rfl) (fun _ _ _ h => h) (by rfl) (fun w' hw' => ?_) gS ?_
    rotate_left
    focus (have hh := HS.out _ hw'; go_split_ands; go_simp; (try with_reducible rfl); done)
    (try simp only [Act.put, List.setIfInBounds_toArray, List.set_cons_zero, List.set_cons_succ])
    refine wpAnyG_two 1 3 (by kernel_rfl) rfl rfl (by rfl) (by rfl) (fun K hK => ?_) (fun K hK => ?_)
    · go_simp
      go_at_call 33
      refine (rfof_n (n := 1) (d := 2) (by omega) (by omega)).mono ?_
      rintro _ s1 ⟨b4, A4', k4', c4', B4', l4, d4, rfl, h4, z4, _⟩
      have h4 : FracV s1 b4 (.slice A4' k4' c4') (.slice B4' l4 d4) half12 := h4
      have gS : Ext W8 s1 := Ext.trans gS z4
      have hgb := gS.size
      have HH4 := Lib.hid (fun (w' : World) (h : Ext s1 w') => FracV.any (h4.below h) half12_fb (by omega))
      (try go_wp2_with fail)
      refine hK.out _ _ (fun _ => gS) ?_
      clear hK K
      (try simp only [Act.put, List.setIfInBounds_toArray, List.set_cons_zero, List.set_cons_succ])
      refine wpAnyG_two 2 3 (by kernel_rfl) rfl rfl (by rfl) (by rfl) (fun K hK => ?_) (fun K hK => ?_)
      · go_simp
        go_at_call 32
        refine (rmul_f (HXV.out _ gS) (HH4.out _ (Below.refl _ _)) (by omega)).mono ?_
        rintro _ s2 ⟨b6, A6', k6', c6', B6', l6, d6, rfl, h6, z6, n6, m6⟩
        have gS : Ext W8 s2 := Ext.trans gS z6
        have gg := gS
        (try go_wp2_with fail)
        refine hK.out _ _ (fun _ => gS) ?_
        clear hK K
        (try simp only [Act.put, List.setIfInBounds_toArray, List.set_cons_zero, List.set_cons_succ])
        refine wpAnyG_one 3 (by kernel_rfl) rfl (by rfl) (fun K hK => ?_)
        go_simp
        have gS := ext_alloc gS (.cells #[.bool false, .slice none 0 0, .slice none 0 0] 28)
        (try go_wp2_with fail)
        refine hK.out _ _ (fun _ => gS) ?_
        clear hK K
        (try simp only [Act.put, List.setIfInBounds_toArray, List.set_cons_zero, List.set_cons_succ])
        refine wpAnyG_one 4 (by kernel_rfl) rfl (by rfl) (fun K hK => ?_)
        go_simp
        refine hK.out _ _ (fun h => absurd h (by decide)) ?_
        clear hK K
        (try simp only [Act.put, List.setIfInBounds_toArray, List.set_cons_zero, List.set_cons_succ])
        refine wpAnyG_done (by kernel_rfl) ?_ _
        go_wp2
        go_meet
        refine ⟨_, b6, A6', k6', c6', B6', l6, d6, rfl, ?_, FBox.new _ _ _ _ _, h6.below (ext_alloc (Below.refl _ _) _), ext_alloc gg _⟩
        exact gg.size
      · go_simp
        have gS := ext_alloc gS (.cells #[.bool false, .slice none 0 0, .slice none 0 0] 28)
        have dF := FBox.new s1 (.bool false) (.slice none 0 0) (.slice none 0 0) 28
        (try go_wp2_with fail)
        refine hK.out _ _ (fun _ => gS) ?_
        clear hK K
        (try simp only [Act.put, List.setIfInBounds_toArray, List.set_cons_zero, List.set_cons_succ])
        refine wpAnyG_one 2 (by kernel_rfl) rfl (by rfl) (fun K hK => ?_)
        go_simp
        go_at_call 32
        refine (rmul_f (HXV.out _ gS) (HH4.out _ (ext_alloc (Below.refl _ _) _)) (by omega)).mono ?_
        rintro _ s2 ⟨b6, A6', k6', c6', B6', l6, d6, rfl, h6, z6, n6, m6⟩
        have gS : Ext W8 s2 := Ext.trans gS z6
        have dF := dF.below z6
        have gg := gS
        obtain ⟨i0, i1, i2, j0, j1, j2⟩ := dF
        (try go_wp2_with fail)
        refine hK.out _ _ (fun _ => gS) ?_
        clear hK K
        (try simp only [Act.put, List.setIfInBounds_toArray, List.set_cons_zero, List.set_cons_succ])
        refine wpAnyG_one 4 (by kernel_rfl) rfl (by rfl) (fun K hK => ?_)
        go_simp
        refine hK.out _ _ (fun h => absurd h (by decide)) ?_
        clear hK K
        (try simp only [Act.put, List.setIfInBounds_toArray, List.set_cons_zero, List.set_cons_succ])
        refine wpAnyG_done (by kernel_rfl) ?_ _
        go_wp2
        go_meet
        refine ⟨_, b6, A6', k6', c6', B6', l6, d6, rfl, hgb, FBox.put ⟨i0, i1, i2, j0, j1, j2⟩ _ _ _, h6.put n6 m6 (by simp) _ _ _, ext_put gg hgb _ _ _⟩
    · go_simp
      have gS := ext_alloc gS (.cells #[.bool false, .slice none 0 0, .slice none 0 0] 28)
      have dF : FBox (W8.alloc (.cells #[.bool false, .slice none 0 0, .slice none 0 0] 28)).drew W8.heap.size (.bool false) (.slice none 0 0) (.slice none 0 0) := FBox.new W8 (.bool false) (.slice none 0 0) (.slice none 0 0) 28
      (try go_wp2_with fail)
      refine hK.out _ _ (fun _ => gS) ?_
      clear hK K
      (try simp only [Act.put, List.setIfInBounds_toArray, List.set_cons_zero, List.set_cons_succ])
      refine wpAnyG_one 1 (by kernel_rfl) rfl (by rfl) (fun K hK => ?_)
      go_simp
      go_at_call 33
      refine (rfof_n (n := 1) (d := 2) (by omega) (by omega)).mono ?_
      rintro _ s1 ⟨b4, A4', k4', c4', B4', l4, d4, rfl, h4, z4, _⟩
      have h4 : FracV s1 b4 (.slice A4' k4' c4') (.slice B4' l4 d4) half12 := h4
      have hz4 := z4.size
      have gS : Ext W8 s1 := Ext.trans gS z4
      have dF := dF.below z4
      have HH4 := Lib.hid (fun (w' : World) (h : Ext s1 w') => FracV.any (h4.below h) half12_fb (by omega))
      (try go_wp2_with fail)
      refine hK.out _ _ (fun _ => gS) ?_
      clear hK K
      (try simp only [Act.put, List.setIfInBounds_toArray, List.set_cons_zero, List.set_cons_succ])
      refine wpAnyG_one 2 (by kernel_rfl) rfl (by rfl) (fun K hK => ?_)
      go_simp
      go_at_call 32
      refine (rmul_f (HXV.out _ gS) (HH4.out _ (Below.refl _ _)) (by omega)).mono ?_
      rintro _ s2 ⟨b6, A6', k6', c6', B6', l6, d6, rfl, h6, z6, n6, m6⟩
      have gS : Ext W8 s2 := Ext.trans gS z6
      have dF := dF.below z6
      have gg := gS
      have hdl : W8.heap.size < s1.heap.size := by simp at hz4; omega
      obtain ⟨i0, i1, i2, j0, j1, j2⟩ := dF
      (try go_wp2_with fail)
      refine hK.out _ _ (fun _ => gS) ?_
      clear hK K
      (try simp only [Act.put, List.setIfInBounds_toArray, List.set_cons_zero, List.set_cons_succ])
      refine wpAnyG_one 4 (by kernel_rfl) rfl (by rfl) (fun K hK => ?_)
      go_simp
      refine hK.out _ _ (fun h => absurd h (by decide)) ?_
      clear hK K
      (try simp only [Act.put, List.setIfInBounds_toArray, List.set_cons_zero, List.set_cons_succ])
      refine wpAnyG_done (by kernel_rfl) ?_ _
      go_wp2
      go_meet
      refine ⟨_, b6, A6', k6', c6', B6', l6, d6, rfl, Nat.le_refl _, FBox.put ⟨i0, i1, i2, j0, j1, j2⟩ _ _ _, h6.put n6 m6 hdl _ _ _, ext_put gg (Nat.le_refl _) _ _ _⟩
  case rest =>
    obtain ⟨bm, bc, OA, ok, ol, OA', ok', ol', rfl, hbm, hM, vM, xM⟩ := hcut
    obtain ⟨WC, hWC⟩ : ∃ WC : World, WC = wc := ⟨_, rfl⟩
    subst hWC
    have HGH := Lib.hid (fun (w' : World) (h : Ext WC w') => hM.below h)
    have HPH := Lib.hid (fun (w' : World) (h : Ext WC w') => FracV.any (vM.below h) HFH.out (by omega))
    clear hM vM
    go_wp2_with fail
    refine (HAM.out _).mono ?_
    rintro e w1 ⟨b1, A1, k1, c1, A1', k1', c1', rfl, h1, y1, n1, n1'⟩
    clear n1 n1'
    go_upto_region 7 with (fail)
    have hG1 := FBox.new w1 (.bool b1) (.slice A1 k1 c1) (.slice A1' k1' c1') 28
    have Y1 : Ext WC (w1.alloc (.cells #[.bool b1, .slice A1 k1 c1, .slice A1' k1' c1'] 28)) := ext_alloc y1 _
    have h1 := h1.below (ext_alloc (Below.refl _ _) (.cells #[.bool b1, .slice A1 k1 c1, .slice A1' k1' c1'] 28))
    have hsz1 : w1.heap.size < (w1.alloc (.cells #[.bool b1, .slice A1 k1 c1, .slice A1' k1' c1'] 28)).heap.size := by simp
    generalize w1.alloc (.cells #[.bool b1, .slice A1 k1 c1, .slice A1' k1' c1'] 28) = W1 at *
    generalize w1.heap.size = B1 at *
    have HG1 := Lib.hid (fun (w' : World) (h : Ext W1 w') => hG1.below h)
    have HP1 := Lib.hid (fun (w' : World) (h : Ext W1 w') => FracV.any (h1.below h) (HFM.out) (by omega))
    have HB1 := Lib.hid (fun (w' : World) (h : Ext W1 w') => h1.below h)
    clear hG1 h1 y1 hsz1
    go_wp2_with fail
    refine (HAL.out _).mono ?_
    rintro e w2 ⟨b2, A2, k2, c2, A2', k2', c2', rfl, h2, y2, n2, n2'⟩
    clear n2 n2'
    go_upto_region 8 with (fail)
    have hG2 := FBox.new w2 (.bool b2) (.slice A2 k2 c2) (.slice A2' k2' c2') 28
    have Y2 : Ext W1 (w2.alloc (.cells #[.bool b2, .slice A2 k2 c2, .slice A2' k2' c2'] 28)) := ext_alloc y2 _
    have h2 := h2.below (ext_alloc (Below.refl _ _) (.cells #[.bool b2, .slice A2 k2 c2, .slice A2' k2' c2'] 28))
    have hsz2 : w2.heap.size < (w2.alloc (.cells #[.bool b2, .slice A2 k2 c2, .slice A2' k2' c2'] 28)).heap.size := by simp
    generalize w2.alloc (.cells #[.bool b2, .slice A2 k2 c2, .slice A2' k2' c2'] 28) = W2 at *
    generalize w2.heap.size = B2 at *
    have HG2 := Lib.hid (fun (w' : World) (h : Ext W2 w') => hG2.below h)
    have HP2 := Lib.hid (fun (w' : World) (h : Ext W2 w') => FracV.any (h2.below h) (HFL.out) (by omega))
    have HB2 := Lib.hid (fun (w' : World) (h : Ext W2 w') => h2.below h)
    clear hG2 h2 y2 hsz2
    have HC := Lib.hid (fun (w' : World) (h : Ext W2 w') => (⟨HGH.out _ (Y1.trans (Y2.trans h)), HG1.out _ (Y2.trans h), HG2.out _ h⟩ : _ ∧ _ ∧ _))
    have HPH2 := Lib.hid (fun (w' : World) (h : Ext W2 w') => HPH.out _ (Y1.trans (Y2.trans h)))
    have HP12 := Lib.hid (fun (w' : World) (h : Ext W2 w') => HP1.out _ (Y2.trans h))
    have f0 : Ext W2 W2 := Below.refl _ _
    have XT : Ext w W2 := HE.out.trans (x8.trans (xM.trans (Y1.trans Y2)))
    obtain ⟨⟨p0, p1, p2, _, _, _⟩, ⟨q0, q1, q2, _, _, _⟩, r0, r1, r2, _, _, _⟩ := HC.out _ f0
    by_cases g1 : 0 < x1
    · by_cases g2 : 0 < x2
      · have HA := Lib.hid (show decide (Acc n d D (q / 2)) = true from decide_eq_true (HACC.out.2 ⟨g1, g2⟩))
        have e1 : decide (0 < x1) = true := decide_eq_true g1
        have e2 : decide (0 < x2) = true := decide_eq_true g2
        go_wp2_with (first
          | (go_at_call 36; (with_reducible refine (rcmp_e (HP12.out _ f0) (HPH2.out _ f0) (by omega) (by omega) (by omega) HX1.out).mono ?_); rintro e s4 ⟨rfl, z4⟩; have f0 := Ext.trans f0 z4; obtain ⟨⟨p0, p1, p2, _, _, _⟩, ⟨q0, q1, q2, _, _, _⟩, r0, r1, r2, _, _, _⟩ := HC.out _ f0)
          | (go_at_call 36; (with_reducible refine (rcmp_e (HP2.out _ f0) (HPH2.out _ f0) (by omega) (by omega) (by omega) HX2.out).mono ?_); rintro e s4 ⟨rfl, z4⟩; have f0 := Ext.trans f0 z4))
        go_ret2
        exact ⟨by rw [HA.out]; (try simp [g1, g2]), XT.trans f0⟩
      · have HA := Lib.hid (show decide (Acc n d D (q / 2)) = false from decide_eq_false (fun h => g2 (HACC.out.1 h).2))
        have e1 : decide (0 < x1) = true := decide_eq_true g1
        have e2 : decide (0 < x2) = false := decide_eq_false g2
        go_wp2_with (first
          | (go_at_call 36; (with_reducible refine (rcmp_e (HP12.out _ f0) (HPH2.out _ f0) (by omega) (by omega) (by omega) HX1.out).mono ?_); rintro e s4 ⟨rfl, z4⟩; have f0 := Ext.trans f0 z4; obtain ⟨⟨p0, p1, p2, _, _, _⟩, ⟨q0, q1, q2, _, _, _⟩, r0, r1, r2, _, _, _⟩ := HC.out _ f0)
          | (go_at_call 36; (with_reducible refine (rcmp_e (HP2.out _ f0) (HPH2.out _ f0) (by omega) (by omega) (by omega) HX2.out).mono ?_); rintro e s4 ⟨rfl, z4⟩; have f0 := Ext.trans f0 z4))
        go_ret2
        exact ⟨by rw [HA.out]; (try simp [g1, g2]), XT.trans f0⟩
    · have HA := Lib.hid (show decide (Acc n d D (q / 2)) = false from decide_eq_false (fun h => g1 (HACC.out.1 h).1))
      have e1 : decide (0 < x1) = false := decide_eq_false g1
      go_wp2_with (go_at_call 36; (with_reducible refine (rcmp_e (HP12.out _ f0) (HPH2.out _ f0) (by omega) (by omega) (by omega) HX1.out).mono ?_); rintro e s4 ⟨rfl, z4⟩; have f0 := Ext.trans f0 z4; obtain ⟨⟨p0, p1, p2, _, _, _⟩, ⟨q0, q1, q2, _, _, _⟩, r0, r1, r2, _, _, _⟩ := HC.out _ f0)
      go_ret2
      exact ⟨by rw [HA.out]; (try simp [g1]), XT.trans f0⟩

set_option maxHeartbeats 4000000 in
theorem raccepts_any {n d D : Int} {b : Bool} {s t : Value} {q : Rat} {L : Nat} {w : World} (hx : AnyF w b s t q L) (hL1 : 1 ≤ L) (hL : L ≤ 1000) :
    Calls Tryz.prog 15 #[.int .i64 n, .int .i64 d, .int .i64 D, .agg #[.bool b, s, t]] w (fun e w' => e = .returned (.tuple #[.bool (accB n d D q), .int .i64 (accE n d D q)]) ∧ Ext w w') := by
  by_cases hin : DIn n d D
  · by_cases hq : Lvl q
    · obtain ⟨N, E, F, rfl, rfl, rfl, h1, h2, h3⟩ := din_nat hin
      rw [accE_ok hin hq, accB_ok hin hq]
      exact raccepts_in h1 h2 h3 hx hL1 hL hq
    · have HE1 := Lib.hid (accE_arg hin hq)
      have HB1 := Lib.hid (accB_no (show accE n d D q ≠ 0 from by rw [HE1.out]; decide))
      have HLI := Lib.hid (fun w => rlimits_t hin w)
      have HRA := Lib.hid (fun (w' : World) (h : Ext w w') => (show Calls Tryz.prog 21 #[.agg #[.bool b, s, t]] w' (fun e w'' => e = .returned (.bool false) ∧ Ext w' w'') from by
        have h0 := ralpha_n (hx.below h) hL1 hL
        rw [decide_eq_false hq] at h0
        exact h0))
      rw [HE1.out, HB1.out]
      clear hq hin hx
      go_enter Tryz.func15, Tryz.ntmps15
      go_upto_region 1 with (fail)
      have hB0 := FBox.new w (.bool b) (s) (t) 28
      have x0 : Ext w (w.alloc (.cells #[.bool b, s, t] 28)) := ext_alloc (Below.refl _ _) _
      have hs0 : w.heap.size + 1 ≤ (w.alloc (.cells #[.bool b, s, t] 28)).heap.size := by simp
      generalize (w.alloc (.cells #[.bool b, s, t] 28)) = W0 at *
      have HB0 := Lib.hid (fun (w' : World) (h : Ext W0 w') => hB0.below h)
      obtain ⟨c00, c01, c02, d00, d01, d02⟩ := hB0
      have HE := Lib.hid x0
      clear x0
      have f0 : Ext W0 W0 := Below.refl _ _
      go_wp2_with fail
      refine (HLI.out _).mono ?_
      rintro e w1 ⟨rfl, rfl⟩
      go_wp2_with fail
      refine (HRA.out _ HE.out).mono ?_
      rintro e W8 ⟨rfl, x8⟩
      go_wp2
      go_ret2
      exact ⟨rfl, HE.out.trans x8⟩
  · have HE1 := Lib.hid (accE_range (q := q) hin)
    have HB1 := Lib.hid (accB_no (show accE n d D q ≠ 0 from by rw [HE1.out]; decide))
    have HLI := Lib.hid (fun w => rlimits_f hin w)
    rw [HE1.out, HB1.out]
    clear hin hx
    go_enter Tryz.func15, Tryz.ntmps15
    go_upto_region 1 with (fail)
    have hB0 := FBox.new w (.bool b) (s) (t) 28
    have x0 : Ext w (w.alloc (.cells #[.bool b, s, t] 28)) := ext_alloc (Below.refl _ _) _
    have hs0 : w.heap.size + 1 ≤ (w.alloc (.cells #[.bool b, s, t] 28)).heap.size := by simp
    generalize (w.alloc (.cells #[.bool b, s, t] 28)) = W0 at *
    have HB0 := Lib.hid (fun (w' : World) (h : Ext W0 w') => hB0.below h)
    obtain ⟨c00, c01, c02, d00, d01, d02⟩ := hB0
    have HE := Lib.hid x0
    clear x0
    have f0 : Ext W0 W0 := Below.refl _ _
    go_wp2_with fail
    refine (HLI.out _).mono ?_
    rintro e w1 ⟨rfl, rfl⟩
    go_wp2
    go_ret2
    exact ⟨rfl, HE.out⟩

set_option maxHeartbeats 8000000 in
theorem rset_any {n d m : Int} {b : Bool} {s t : Value} {q : Rat} {L : Nat} {w : World} (hx : AnyF w b s t q L) (hL1 : 1 ≤ L) (hL : L ≤ 1000) (ht : Tab10 w) :
    Calls Tryz.prog 10 #[.int .i64 n, .int .i64 d, .int .i64 m, .agg #[.bool b, s, t]] w (GivesI w (setL n d m q) (accE n d m q)) := by
  have HX := Lib.hid (fun (w' : World) (h : Ext w w') => hx.below h)
  clear ht hx
  by_cases hin : DIn n d m
  · have HLI := Lib.hid (fun w => rlimits_t hin w)
    by_cases hq : Lvl q
    · obtain ⟨N, E, M, rfl, rfl, rfl, h1, h2, h3⟩ := din_nat hin
      rw [accE_ok hin hq, setL_ok hin hq]
      obtain ⟨i0, hi, hz0, hz1, hz2⟩ := info_parts info_int
      have HQ := Lib.hid hq
      have HLEN := Lib.hid (fun k => accL_length (n := N) (d := E) (h := q / 2) k)
      have HRA := Lib.hid (fun (w' : World) (h : Ext w w') => (show Calls Tryz.prog 21 #[.agg #[.bool b, s, t]] w' (fun e w'' => e = .returned (.bool true) ∧ Ext w' w'') from by
        have h0 := ralpha_n (HX.out _ h) hL1 hL
        rw [decide_eq_true hq] at h0
        exact h0))
      clear hq hin
      go_enter Tryz.func10, Tryz.ntmps10
      go_upto_region 1 with (fail)
      have hB0 := FBox.new w (.bool b) (s) (t) 28
      have x0 : Ext w (w.alloc (.cells #[.bool b, s, t] 28)) := ext_alloc (Below.refl _ _) _
      have hs0 : w.heap.size + 1 ≤ (w.alloc (.cells #[.bool b, s, t] 28)).heap.size := by simp
      generalize (w.alloc (.cells #[.bool b, s, t] 28)) = W0 at *
      have HB0 := Lib.hid (fun (w' : World) (h : Ext W0 w') => hB0.below h)
      obtain ⟨c00, c01, c02, d00, d01, d02⟩ := hB0
      have HE := Lib.hid x0
      clear x0
      have f0 : Ext W0 W0 := Below.refl _ _
      go_wp2_with fail
      refine (HLI.out _).mono ?_
      rintro e w1 ⟨rfl, rfl⟩
      go_wp2_with fail
      refine (HRA.out _ HE.out).mono ?_
      rintro e W6 ⟨rfl, x2⟩
      obtain ⟨c00, c01, c02, _, _, _⟩ := HB0.out _ x2
      have xw6 := HE.out.trans x2
      go_wp2
      go_loopw [10, 11] (fun ov iv wr => ∃ k : Nat, k ≤ M ∧ iv = .int .i64 ((k : Int) + 1) ∧ wr.ownsRow W6.heap.size 3 1 ov (natsI (accL N E (q / 2) k)).length (i64l (natsI (accL N E (q / 2) k))) ∧ Ext W6 wr)
        (fun _ iv _ => M + 1 - (intOf iv).toNat)
      case atStart => exact ⟨0, Nat.zero_le _, rfl, World.ownsRow_nil _ _ _ _, Below.refl _ _⟩
      case round =>
        clear c00 c01 c02
        obtain ⟨k, hk, rfl, hown, hE6⟩ := hrel
        obtain ⟨OA, OC, rfl, ho1, ho2⟩ := own_slice hown
        obtain ⟨c00, c01, c02, _, _, _⟩ := HB0.out _ (x2.trans hE6)
        have HOWN := Lib.hid hown
        have hXw : Ext w wr := xw6.trans hE6
        by_cases hkm : k < M
        · have hb1 : (k : Int) + 1 ≤ (M : Int) := by omega
          have hw1 : IntKind.i64.wrap ((k : Int) + 1 + 1) = (k : Int) + 1 + 1 := wrap_in (by omega)
          have HKM := Lib.hid (show k < M ∧ M ≤ 60 from by omega)
          have HKA := Lib.hid (fun (w' : World) (h : Ext wr w') => (show Calls Tryz.prog 15 #[.int .i64 N, .int .i64 E, .int .i64 ((k : Int) + 1), .agg #[.bool b, s, t]] w' (fun e w'' => e = .returned (.tuple #[.bool (decide (Acc N E (k + 1) (q / 2))), .int .i64 0]) ∧ Ext w' w'') from by
            have h0 := raccepts_in (n := N) (d := E) (D := k + 1) (q := q) h1 h2 (by omega) (HX.out _ (hXw.trans h)) hL1 hL HQ.out
            rw [show ((k + 1 : Nat) : Int) = (k : Int) + 1 from by omega] at h0
            exact h0))
          clear hown
          by_cases ha : Acc N E (k + 1) (q / 2)
          · have HA := Lib.hid (show decide (Acc N E (k + 1) (q / 2)) = true from decide_eq_true ha)
            have HST := Lib.hid (accL_snoc_in ha)
            rw [HA.out] at HKA
            clear ha
            go_wp2_with fail
            refine (HKA.out _ (Below.refl _ _)).mono ?_
            rintro _ w7 ⟨rfl, e7⟩
            have hb7 : W6.heap.size ≤ w7.heap.size := (hE6.trans e7).size
            go_wp2_with (at_builtin; refine wpList_append_mine _ (by rfl) (.tmp 36) (.tmp 38) 31 (by rfl) W6.heap.size 3 i0 (.int .i64 0) 1 8 Tryz.underlying31 hi hz0 hz1 hz2 rfl (by omega) _ _ _ (by rfl) (World.ownsRow.kept HOWN.out (Ext.grown (ext_alloc e7 _)) (by cases OA <;> simp [Value.ownBlock])) ⟨w7.heap.size, 0, none⟩ 1 1 [.int .i64 ((k : Int) + 1)] (by rfl) rfl (cell_one w7 _ _) (by simp [Value.oneCell']) (by have := HLEN.out k; have := HKM.out; rw [natsI_length]; unfold maxLen; omega) (by have := HLEN.out k; have := HKM.out; rw [natsI_length]; omega) (by simp; omega) ?_
                         intro v8 w8 ho8 hg8 hw8)
            rw [i64l_snoc] at ho8
            have e8 : Ext W6 w8 := Below.grown (ext_alloc (hE6.trans e7) _) hg8 (by simp; have := (hE6.trans e7).size; omega) (fun b hb => by have := (HOWN.out.lt b hb).1; have := xw6.size; omega)
            go_wp2
            go_roundw
            case rel => exact ⟨k + 1, by omega, by go_num, by rw [HST.out, List.length_append]; exact ho8, e8⟩
            case measure => simp [intOf]; omega
          · have HA := Lib.hid (show decide (Acc N E (k + 1) (q / 2)) = false from decide_eq_false ha)
            have HST := Lib.hid (accL_out ha)
            rw [HA.out] at HKA
            clear ha
            go_wp2_with fail
            refine (HKA.out _ (Below.refl _ _)).mono ?_
            rintro _ w7 ⟨rfl, e7⟩
            go_wp2
            go_roundw
            case rel => exact ⟨k + 1, by omega, by go_num, by rw [HST.out]; exact World.ownsRow.kept HOWN.out (Ext.grown e7) (by cases OA <;> simp [Value.ownBlock]), hE6.trans e7⟩
            case measure => simp [intOf]; omega
        · obtain rfl : k = M := by omega
          have hb1 : ¬ ((k : Int) + 1 ≤ (k : Int)) := by omega
          have hI : IntsV wr (.slice OA _ OC) _ := IntsV.of_own hown
          have hN : New w.heap.size (.slice OA (natsI (accL N E (q / 2) k)).length OC) := fun b hb => by have := (hown.lt b hb).1; have := xw6.size; omega
          go_wp2
          go_ret2
          exact ⟨OA, OC, rfl, hI, hXw, hN⟩
    · have HE1 := Lib.hid (accE_arg hin hq)
      have HB1 := Lib.hid (setL_no (show accE n d m q ≠ 0 from by rw [HE1.out]; decide))
      have HRA := Lib.hid (fun (w' : World) (h : Ext w w') => (show Calls Tryz.prog 21 #[.agg #[.bool b, s, t]] w' (fun e w'' => e = .returned (.bool false) ∧ Ext w' w'') from by
        have h0 := ralpha_n (HX.out _ h) hL1 hL
        rw [decide_eq_false hq] at h0
        exact h0))
      rw [HE1.out, HB1.out]
      clear hq hin
      go_enter Tryz.func10, Tryz.ntmps10
      go_upto_region 1 with (fail)
      have hB0 := FBox.new w (.bool b) (s) (t) 28
      have x0 : Ext w (w.alloc (.cells #[.bool b, s, t] 28)) := ext_alloc (Below.refl _ _) _
      have hs0 : w.heap.size + 1 ≤ (w.alloc (.cells #[.bool b, s, t] 28)).heap.size := by simp
      generalize (w.alloc (.cells #[.bool b, s, t] 28)) = W0 at *
      have HB0 := Lib.hid (fun (w' : World) (h : Ext W0 w') => hB0.below h)
      obtain ⟨c00, c01, c02, d00, d01, d02⟩ := hB0
      have HE := Lib.hid x0
      clear x0
      have f0 : Ext W0 W0 := Below.refl _ _
      go_wp2_with fail
      refine (HLI.out _).mono ?_
      rintro e w1 ⟨rfl, rfl⟩
      go_wp2_with fail
      refine (HRA.out _ HE.out).mono ?_
      rintro e W6 ⟨rfl, x2⟩
      go_wp2
      go_ret2
      exact GivesI.none_ (HE.out.trans x2)
  · have HE1 := Lib.hid (accE_range (q := q) hin)
    have HB1 := Lib.hid (setL_no (show accE n d m q ≠ 0 from by rw [HE1.out]; decide))
    have HLI := Lib.hid (fun w => rlimits_f hin w)
    rw [HE1.out, HB1.out]
    clear hin
    go_enter Tryz.func10, Tryz.ntmps10
    go_upto_region 1 with (fail)
    have hB0 := FBox.new w (.bool b) (s) (t) 28
    have x0 : Ext w (w.alloc (.cells #[.bool b, s, t] 28)) := ext_alloc (Below.refl _ _) _
    have hs0 : w.heap.size + 1 ≤ (w.alloc (.cells #[.bool b, s, t] 28)).heap.size := by simp
    generalize (w.alloc (.cells #[.bool b, s, t] 28)) = W0 at *
    have HB0 := Lib.hid (fun (w' : World) (h : Ext W0 w') => hB0.below h)
    obtain ⟨c00, c01, c02, d00, d01, d02⟩ := hB0
    have HE := Lib.hid x0
    clear x0
    have f0 : Ext W0 W0 := Below.refl _ _
    go_wp2_with fail
    refine (HLI.out _).mono ?_
    rintro e w1 ⟨rfl, rfl⟩
    go_wp2
    go_ret2
    exact GivesI.none_ HE.out

set_option maxHeartbeats 4000000 in
theorem rratio_any {n d D E : Nat} {b : Bool} {m k : Nat} {er : Int} {w : World} (h1 : 1 ≤ n ∧ n ≤ 24) (h2 : 1 ≤ d ∧ d ≤ n) (h3 : 1 ≤ D ∧ D ≤ 60) (h4 : 1 ≤ E ∧ E ≤ 60)
    (hdiv : ∀ (b1 : Bool) (s1 t1 : Value) (b2 : Bool) (s2 t2 : Value) (w' : World), AnyF w' b1 s1 t1 (pchI n D d) 130 → AnyF w' b2 s2 t2 (pchI n E d) 130 → Calls Tryz.prog 39 #[.agg #[.bool b1, s1, t1], .agg #[.bool b2, s2, t2]] w' (GivesP w' b m k er)) :
    Calls Tryz.prog 19 #[.int .i64 n, .int .i64 d, .int .i64 D, .int .i64 E] w (GivesP w b m k er) := by
  have HD := Lib.hid hdiv
  have HF1 := Lib.hid (pchI_fbC (n := n) (D := D) (by omega) (by omega) (d : Int))
  have HF2 := Lib.hid (pchI_fbC (n := n) (D := E) (by omega) (by omega) (d : Int))
  have HL1 := Lib.hid (fun w => rlimits_t (din_of h1 h2 h3) w)
  have HL2 := Lib.hid (fun w => rlimits_t (din_of h1 h2 h4) w)
  clear hdiv
  go_enter Tryz.func19, Tryz.ntmps19
  go_upto_region 1 with (fail)
  have hF0 := FBox.new w (.bool false) (.slice none 0 0) (.slice none 0 0) 28
  have x0 : Ext w (w.alloc (.cells #[.bool false, .slice none 0 0, .slice none 0 0] 28)) := ext_alloc (Below.refl _ _) _
  have hs0 : w.heap.size + 1 ≤ (w.alloc (.cells #[.bool false, .slice none 0 0, .slice none 0 0] 28)).heap.size := by simp
  generalize w.alloc (.cells #[.bool false, .slice none 0 0, .slice none 0 0] 28) = W0 at *
  have HF := Lib.hid (fun (w' : World) (h : Ext W0 w') => hF0.below h)
  have HE := Lib.hid x0
  have f0 : Ext W0 W0 := Below.refl _ _
  obtain ⟨r0, r1, r2, g0, g1, g2⟩ := hF0
  clear x0
  go_upto_region 3 with (first
    | (go_at_call 31; (with_reducible refine (HL1.out _).mono ?_); rintro _ w2 ⟨rfl, rfl⟩)
    | (go_at_call 31; (with_reducible refine (HL2.out _).mono ?_); rintro _ w2 ⟨rfl, rfl⟩))
  go_wp2_with fail
  refine (rchance_ok (n := n) (D := D) (d := (d : Int)) (by omega) (by omega) (by omega)).mono ?_
  rintro e w1 ⟨b1, A1, k1, c1, A1', k1', c1', rfl, h1, y1, n1, n1'⟩
  clear n1 n1'
  go_upto_region 4 with (fail)
  have hG1 := FBox.new w1 (.bool b1) (.slice A1 k1 c1) (.slice A1' k1' c1') 28
  have Y1 : Ext w2 (w1.alloc (.cells #[.bool b1, .slice A1 k1 c1, .slice A1' k1' c1'] 28)) := ext_alloc y1 _
  have h1 := h1.below (ext_alloc (Below.refl _ _) (.cells #[.bool b1, .slice A1 k1 c1, .slice A1' k1' c1'] 28))
  have hsz1 : w1.heap.size < (w1.alloc (.cells #[.bool b1, .slice A1 k1 c1, .slice A1' k1' c1'] 28)).heap.size := by simp
  generalize w1.alloc (.cells #[.bool b1, .slice A1 k1 c1, .slice A1' k1' c1'] 28) = W1 at *
  generalize w1.heap.size = B1 at *
  have HG1 := Lib.hid (fun (w' : World) (h : Ext W1 w') => hG1.below h)
  have HP1 := Lib.hid (fun (w' : World) (h : Ext W1 w') => FracV.any (h1.below h) (HF1.out) (by omega))
  have HB1 := Lib.hid (fun (w' : World) (h : Ext W1 w') => h1.below h)
  clear hG1 h1 y1 hsz1
  go_wp2_with fail
  refine (rchance_ok (n := n) (D := E) (d := (d : Int)) (by omega) (by omega) (by omega)).mono ?_
  rintro e w2 ⟨b2, A2, k2, c2, A2', k2', c2', rfl, h2, y2, n2, n2'⟩
  clear n2 n2'
  go_upto_region 5 with (fail)
  have hG2 := FBox.new w2 (.bool b2) (.slice A2 k2 c2) (.slice A2' k2' c2') 28
  have Y2 : Ext W1 (w2.alloc (.cells #[.bool b2, .slice A2 k2 c2, .slice A2' k2' c2'] 28)) := ext_alloc y2 _
  have h2 := h2.below (ext_alloc (Below.refl _ _) (.cells #[.bool b2, .slice A2 k2 c2, .slice A2' k2' c2'] 28))
  have hsz2 : w2.heap.size < (w2.alloc (.cells #[.bool b2, .slice A2 k2 c2, .slice A2' k2' c2'] 28)).heap.size := by simp
  generalize w2.alloc (.cells #[.bool b2, .slice A2 k2 c2, .slice A2' k2' c2'] 28) = W2 at *
  generalize w2.heap.size = B2 at *
  have HG2 := Lib.hid (fun (w' : World) (h : Ext W2 w') => hG2.below h)
  have HP2 := Lib.hid (fun (w' : World) (h : Ext W2 w') => FracV.any (h2.below h) (HF2.out) (by omega))
  have HB2 := Lib.hid (fun (w' : World) (h : Ext W2 w') => h2.below h)
  clear hG2 h2 y2 hsz2
  obtain ⟨p0, p1, p2, _, _, _⟩ := HG1.out _ Y2
  obtain ⟨s0, s1, s2, _, _, _⟩ := HG2.out _ (Below.refl _ _)
  obtain ⟨r0, r1, r2, g0, g1, g2⟩ := HF.out _ (Y1.trans Y2)
  go_wp2_with (go_at_call 39; (with_reducible refine (HD.out _ _ _ _ _ _ _ (HP1.out _ Y2) (HP2.out _ (Below.refl _ _))).mono ?_); rintro _ s9 ⟨A9, k9, c9, B9, l9, d9, rfl, h9, h9', z9, n9, m9⟩; obtain ⟨r0, r1, r2, g0, g1, g2⟩ := HF.out _ (Y1.trans (Y2.trans z9)))
  obtain ⟨q0, q1, q2⟩ := set3 r0 r1 r2 (.bool b) (.slice A9 k9 c9) (.slice B9 l9 d9)
  refine bodyPost_ret (v := .tuple #[.agg #[.bool b, .slice A9 k9 c9, .slice B9 l9 d9], .int .i64 er]) (by simp [results, Tryz.results19, go_sem, q0, q1, q2]) rfl ?_
  have hlo : w.heap.size + 1 ≤ W2.heap.size := by have := Y1.size; have := Y2.size; omega
  exact ⟨A9, k9, c9, B9, l9, d9, rfl, CanV.put h9 (n9.mono hlo) _ _ _, CanV.put h9' (m9.mono hlo) _ _ _, ext_put (HE.out.trans (Y1.trans (Y2.trans z9))) (Nat.le_refl _) _ _ _, n9.mono (by omega), m9.mono (by omega)⟩
theorem rratio_ok {n d D E : Nat} {w : World} (h1 : 1 ≤ n ∧ n ≤ 24) (h2 : 1 ≤ d ∧ d ≤ n) (h3 : 1 ≤ D ∧ D ≤ 60) (h4 : 1 ≤ E ∧ E ≤ 60) (hq : pchI n E d ≠ 0) :
    Calls Tryz.prog 19 #[.int .i64 n, .int .i64 d, .int .i64 D, .int .i64 E] w (GivesP w (decide (pchI n D d / pchI n E d < 0)) (pchI n D d / pchI n E d).num.natAbs (pchI n D d / pchI n E d).den 0) :=
  rratio_any h1 h2 h3 h4 fun _ _ _ _ _ _ _ hx hy => (rdiv_ok hx hy (pchI_fbC (by omega) (by omega) _) (by omega) hq).mono fun _ _ h => h.p
theorem rratio_z {n d D E : Nat} {w : World} (h1 : 1 ≤ n ∧ n ≤ 24) (h2 : 1 ≤ d ∧ d ≤ n) (h3 : 1 ≤ D ∧ D ≤ 60) (h4 : 1 ≤ E ∧ E ≤ 60) (hq : pchI n E d = 0) :
    Calls Tryz.prog 19 #[.int .i64 n, .int .i64 d, .int .i64 D, .int .i64 E] w (GivesP w false 0 0 12) :=
  rratio_any h1 h2 h3 h4 fun _ _ _ _ _ _ _ hx hy => (rdiv_no hy (by omega) hq).mono fun _ _ h => h.p
set_option maxHeartbeats 4000000 in
theorem rratio_no {n d D E : Int} {w : World} (hu : ¬ (KIn n d ∧ DiesIn [D, E])) :
    Calls Tryz.prog 19 #[.int .i64 n, .int .i64 d, .int .i64 D, .int .i64 E] w (GivesP w false 0 0 2) := by
  by_cases h1 : DIn n d D
  · have h2 : ¬ DIn n d E := fun h2 => hu ⟨h1.1, by
      intro u hu
      rcases List.mem_cons.1 hu with rfl | hu
      · exact h1.2
      · obtain rfl : u = E := by simpa using hu
        exact h2.2⟩
    have HL1 := Lib.hid (fun w => rlimits_t h1 w)
    have HL2 := Lib.hid (fun w => rlimits_f h2 w)
    clear hu h1 h2
    go_enter Tryz.func19, Tryz.ntmps19
    go_upto_region 1 with (fail)
    have hF0 := FBox.new w (.bool false) (.slice none 0 0) (.slice none 0 0) 28
    have x0 : Ext w (w.alloc (.cells #[.bool false, .slice none 0 0, .slice none 0 0] 28)) := ext_alloc (Below.refl _ _) _
    have hs0 : w.heap.size + 1 ≤ (w.alloc (.cells #[.bool false, .slice none 0 0, .slice none 0 0] 28)).heap.size := by simp
    generalize w.alloc (.cells #[.bool false, .slice none 0 0, .slice none 0 0] 28) = W0 at *
    have HF := Lib.hid (fun (w' : World) (h : Ext W0 w') => hF0.below h)
    have HE := Lib.hid x0
    have f0 : Ext W0 W0 := Below.refl _ _
    obtain ⟨r0, r1, r2, g0, g1, g2⟩ := hF0
    clear x0
    go_wp2_with (first
      | (go_at_call 31; (with_reducible refine (HL1.out _).mono ?_); rintro _ w2 ⟨rfl, rfl⟩)
      | (go_at_call 31; (with_reducible refine (HL2.out _).mono ?_); rintro _ w2 ⟨rfl, rfl⟩))
    obtain ⟨q0, q1, q2⟩ := set3 r0 r1 r2 (.bool false) (.slice none 0 0) (.slice none 0 0)
    refine bodyPost_ret (v := .tuple #[.agg #[.bool false, .slice none 0 0, .slice none 0 0], .int .i64 2]) (by simp [results, Tryz.results19, go_sem, q0, q1, q2]) rfl ?_
    exact GivesFN.p ⟨rfl, ext_put HE.out (Nat.le_refl _) _ _ _⟩
  · have HL1 := Lib.hid (fun w => rlimits_f h1 w)
    clear hu h1
    go_enter Tryz.func19, Tryz.ntmps19
    go_upto_region 1 with (fail)
    have hF0 := FBox.new w (.bool false) (.slice none 0 0) (.slice none 0 0) 28
    have x0 : Ext w (w.alloc (.cells #[.bool false, .slice none 0 0, .slice none 0 0] 28)) := ext_alloc (Below.refl _ _) _
    have hs0 : w.heap.size + 1 ≤ (w.alloc (.cells #[.bool false, .slice none 0 0, .slice none 0 0] 28)).heap.size := by simp
    generalize w.alloc (.cells #[.bool false, .slice none 0 0, .slice none 0 0] 28) = W0 at *
    have HF := Lib.hid (fun (w' : World) (h : Ext W0 w') => hF0.below h)
    have HE := Lib.hid x0
    have f0 : Ext W0 W0 := Below.refl _ _
    obtain ⟨r0, r1, r2, g0, g1, g2⟩ := hF0
    clear x0
    go_wp2_with (go_at_call 31; (with_reducible refine (HL1.out _).mono ?_); rintro _ w2 ⟨rfl, rfl⟩)
    obtain ⟨q0, q1, q2⟩ := set3 r0 r1 r2 (.bool false) (.slice none 0 0) (.slice none 0 0)
    refine bodyPost_ret (v := .tuple #[.agg #[.bool false, .slice none 0 0, .slice none 0 0], .int .i64 2]) (by simp [results, Tryz.results19, go_sem, q0, q1, q2]) rfl ?_
    exact GivesFN.p ⟨rfl, ext_put HE.out (Nat.le_refl _) _ _ _⟩

set_option maxHeartbeats 4000000 in
theorem rrange_of {n d m : Int} {b : Bool} {s t : Value} {l : List Int} {er : Int} {w : World} (hc : er = 0 ∨ ((er = 1 ∨ er = 2) ∧ l = []))
    (hs : ∀ w', Ext w w' → Calls Tryz.prog 10 #[.int .i64 n, .int .i64 d, .int .i64 m, .agg #[.bool b, s, t]] w' (GivesI w' l er)) :
    Calls Tryz.prog 12 #[.int .i64 n, .int .i64 d, .int .i64 m, .agg #[.bool b, s, t]] w (fun e w' => e = .returned (.tuple #[.int .i64 (rngOf l m er).1.1, .int .i64 (rngOf l m er).1.2, .bool (rngOf l m er).2.1, .int .i64 (rngOf l m er).2.2]) ∧ Ext w w') := by
  have HS := Lib.hid hs
  clear hs
  rcases hc with rfl | ⟨rfl | rfl, rfl⟩
  · by_cases hl : l = []
    · subst hl
      rw [show rngOf [] m 0 = ((0, 0), (false, 7)) from rfl]
      go_enter Tryz.func12, Tryz.ntmps12
      go_upto_region 1 with (fail)
      have hB0 := FBox.new w (.bool b) (s) (t) 28
      have x0 : Ext w (w.alloc (.cells #[.bool b, s, t] 28)) := ext_alloc (Below.refl _ _) _
      have hs0 : w.heap.size + 1 ≤ (w.alloc (.cells #[.bool b, s, t] 28)).heap.size := by simp
      generalize (w.alloc (.cells #[.bool b, s, t] 28)) = W0 at *
      have HB0 := Lib.hid (fun (w' : World) (h : Ext W0 w') => hB0.below h)
      obtain ⟨c00, c01, c02, d00, d01, d02⟩ := hB0
      have HE := Lib.hid x0
      clear x0
      have f0 : Ext W0 W0 := Below.refl _ _
      go_wp2_with fail
      refine (HS.out _ HE.out).mono ?_
      rintro e w1 ⟨A, c, rfl, hI, y1, _⟩
      go_wp2
      ((try simp only [Exit.inBlock, Exit.then]); refine bodyPost_ret (results_tmp4 rfl _ _ _) rfl ?_)
      exact ⟨rfl, HE.out.trans y1⟩
    · have HRG := Lib.hid (show rngOf l m 0 = ((l.getD 0 0, l.getD (l.length - 1) 0), (decide (l.getD (l.length - 1) 0 = m), 0)) from by unfold rngOf; rw [if_neg (by decide), if_neg hl])
      rw [HRG.out]
      have hpos : 0 < l.length := List.length_pos_iff.2 hl
      obtain ⟨K, hK⟩ : ∃ K, K = l.length - 1 := ⟨_, rfl⟩
      rw [← hK]
      have hKl : K < l.length := by omega
      obtain ⟨x, hx⟩ : ∃ x, x = l.getD K 0 := ⟨_, rfl⟩
      obtain ⟨y, hy⟩ : ∃ y, y = l.getD 0 0 := ⟨_, rfl⟩
      rw [← hx, ← hy]
      have HX := Lib.hid hx
      have HY := Lib.hid hy
      clear hl hx hy
      go_enter Tryz.func12, Tryz.ntmps12
      go_upto_region 1 with (fail)
      have hB0 := FBox.new w (.bool b) (s) (t) 28
      have x0 : Ext w (w.alloc (.cells #[.bool b, s, t] 28)) := ext_alloc (Below.refl _ _) _
      have hs0 : w.heap.size + 1 ≤ (w.alloc (.cells #[.bool b, s, t] 28)).heap.size := by simp
      generalize (w.alloc (.cells #[.bool b, s, t] 28)) = W0 at *
      have HB0 := Lib.hid (fun (w' : World) (h : Ext W0 w') => hB0.below h)
      obtain ⟨c00, c01, c02, d00, d01, d02⟩ := hB0
      have HE := Lib.hid x0
      clear x0
      have f0 : Ext W0 W0 := Below.refl _ _
      go_wp2_with fail
      refine (HS.out _ HE.out).mono ?_
      rintro e w1 ⟨A, c, rfl, hI, y1, _⟩
      have hlc : (l.length : Int) ≤ 9223372036854775807 := by obtain ⟨_, _, e0, g1, g2, _⟩ := hI; injection e0 with e1 e2 e3; omega
      obtain ⟨b1, o1, rfl, hb1, hc1⟩ := hI.plC hKl
      obtain ⟨b2, o2, he, hb2, hc2⟩ := hI.plC hpos
      obtain ⟨rfl, rfl⟩ : b1 = b2 ∧ o1 = o2 := by
        injection he with he
        injection he with he1 he2
        exact ⟨he1, he2⟩
      rw [Nat.add_zero] at hc2
      rw [← HX.out] at hc1
      rw [← HY.out] at hc2
      have hw1 : IntKind.i64.wrap ((l.length : Int) - 1) = (K : Int) := by rw [wrap_in (by omega)]; omega
      have hi1 : (0 : Int) ≤ (K : Int) := by omega
      have hi2 : (K : Int) < (l.length : Int) := by omega
      have hi3 : (0 : Int) < (l.length : Int) := by omega
      have hi4 : ¬ ((l.length : Int) = 0) := by omega
      have hi5 : ((l.length : Int) == 0) = false := by rw [beq_eq_false_iff_ne]; omega
      have hi6 : ¬ (l.length = 0) := by omega
      clear hK
      go_wp2
      ((try simp only [Exit.inBlock, Exit.then]); refine bodyPost_ret (results_tmp4 rfl _ _ _) rfl ?_)
      exact ⟨by first | rfl | simp, HE.out.trans y1⟩
  · rw [show rngOf [] m 1 = ((0, 0), (false, 1)) from rfl]
    go_enter Tryz.func12, Tryz.ntmps12
    go_upto_region 1 with (fail)
    have hB0 := FBox.new w (.bool b) (s) (t) 28
    have x0 : Ext w (w.alloc (.cells #[.bool b, s, t] 28)) := ext_alloc (Below.refl _ _) _
    have hs0 : w.heap.size + 1 ≤ (w.alloc (.cells #[.bool b, s, t] 28)).heap.size := by simp
    generalize (w.alloc (.cells #[.bool b, s, t] 28)) = W0 at *
    have HB0 := Lib.hid (fun (w' : World) (h : Ext W0 w') => hB0.below h)
    obtain ⟨c00, c01, c02, d00, d01, d02⟩ := hB0
    have HE := Lib.hid x0
    clear x0
    have f0 : Ext W0 W0 := Below.refl _ _
    go_wp2_with fail
    refine (HS.out _ HE.out).mono ?_
    rintro e w1 ⟨A, c, rfl, hI, y1, _⟩
    go_wp2
    ((try simp only [Exit.inBlock, Exit.then]); refine bodyPost_ret (results_tmp4 rfl _ _ _) rfl ?_)
    exact ⟨rfl, HE.out.trans y1⟩
  · rw [show rngOf [] m 2 = ((0, 0), (false, 2)) from rfl]
    go_enter Tryz.func12, Tryz.ntmps12
    go_upto_region 1 with (fail)
    have hB0 := FBox.new w (.bool b) (s) (t) 28
    have x0 : Ext w (w.alloc (.cells #[.bool b, s, t] 28)) := ext_alloc (Below.refl _ _) _
    have hs0 : w.heap.size + 1 ≤ (w.alloc (.cells #[.bool b, s, t] 28)).heap.size := by simp
    generalize (w.alloc (.cells #[.bool b, s, t] 28)) = W0 at *
    have HB0 := Lib.hid (fun (w' : World) (h : Ext W0 w') => hB0.below h)
    obtain ⟨c00, c01, c02, d00, d01, d02⟩ := hB0
    have HE := Lib.hid x0
    clear x0
    have f0 : Ext W0 W0 := Below.refl _ _
    go_wp2_with fail
    refine (HS.out _ HE.out).mono ?_
    rintro e w1 ⟨A, c, rfl, hI, y1, _⟩
    go_wp2
    ((try simp only [Exit.inBlock, Exit.then]); refine bodyPost_ret (results_tmp4 rfl _ _ _) rfl ?_)
    exact ⟨rfl, HE.out.trans y1⟩
theorem rrange_any {n d m : Int} {b : Bool} {s t : Value} {q : Rat} {L : Nat} {w : World} (hx : AnyF w b s t q L) (hL1 : 1 ≤ L) (hL : L ≤ 1000) (ht : Tab10 w) :
    Calls Tryz.prog 12 #[.int .i64 n, .int .i64 d, .int .i64 m, .agg #[.bool b, s, t]] w (fun e w' => e = .returned (.tuple #[.int .i64 (rngOf (setL n d m q) m (accE n d m q)).1.1, .int .i64 (rngOf (setL n d m q) m (accE n d m q)).1.2, .bool (rngOf (setL n d m q) m (accE n d m q)).2.1, .int .i64 (rngOf (setL n d m q) m (accE n d m q)).2.2]) ∧ Ext w w') := by
  refine rrange_of (acc_case n d m q) fun w' h => rset_any (hx.below h) hL1 hL (ht.ext h)

end Go.Proofs.YtjdpkmngboiemaaGreatDoor
namespace Go.Proofs.YtjdpkmngboiemaaGreatDoor
open Go.RowKit Num

theorem rlike_step {n d x : Nat} (h : d ≤ x) : likeF n d (x + 1 - d) = if pch n (likeF n d (x - d)) d < pch n (x + 1) d then x + 1 else likeF n d (x - d) := by
  have e : x + 1 - d = (x - d) + 1 := by omega
  have e2 : d + (x - d + 1) = x + 1 := by omega
  by_cases hc : pch n (likeF n d (x - d)) d < pch n (d + (x - d + 1)) d
  · have h1 : likeF n d (x - d + 1) = d + (x - d + 1) := if_pos hc
    rw [e2] at hc
    rw [if_pos hc, e, h1, e2]
  · have h1 : likeF n d (x - d + 1) = likeF n d (x - d) := if_neg hc
    rw [e2] at hc
    rw [if_neg hc, e, h1]
set_option maxHeartbeats 8000000 in
theorem rlike_ok {n d m : Nat} {w : World} (h1 : 1 ≤ n ∧ n ≤ 24) (h2 : 1 ≤ d ∧ d ≤ n) (h3 : d ≤ m) (h4 : m ≤ 60) :
    Calls Tryz.prog 17 #[.int .i64 n, .int .i64 d, .int .i64 m] w (fun e w' => e = .returned (.tuple #[.int .i64 ((likeF n d (m - d) : Nat) : Int), .int .i64 0]) ∧ Ext w w') := by
  have HCK := Lib.hid (fun w => rlimits_t (din_of h1 h2 (show 1 ≤ m ∧ m ≤ 60 from by omega)) w)
  have HPC := Lib.hid (fun (D : Nat) => (show pchI n D (d : Int) = pch n D d from by unfold pchI; rw [if_neg (by omega), Int.toNat_natCast]))
  have HFB := Lib.hid (fun (D : Nat) (h : D ≤ 60) => (show FB (pch n D d) 130 from by rw [← HPC.out]; exact pchI_fbC (n := n) (D := D) (by omega) h (d : Int)))
  have HCH := Lib.hid (fun (D : Nat) (g1 : 1 ≤ D) (g2 : D ≤ 60) (w' : World) => (show Calls Tryz.prog 37 #[.int .i64 n, .int .i64 D, .int .i64 d] w' (GivesFE w' (pch n D d)) from by have h0 := rchance_ok (n := n) (D := D) (d := (d : Int)) (w := w') (by omega) g1 g2; rw [HPC.out] at h0; exact h0))
  have HLK := Lib.hid (fun (j : Nat) => (likeF_law (n := n) (d := d) j).1)
  have HLS := Lib.hid (fun (x : Nat) (h : d ≤ x) => rlike_step (n := n) h)
  have hmd : ¬ ((m : Int) < (d : Int)) := by omega
  have hmd2 : decide ((m : Int) < (d : Int)) = false := decide_eq_false hmd
  have hw0 : IntKind.i64.wrap ((d : Int) + 1) = (d : Int) + 1 := wrap_in (by omega)
  go_enter Tryz.func17, Tryz.ntmps17
  go_wp2_with fail
  refine (HCK.out _).mono ?_
  rintro e w1 ⟨rfl, hw1⟩
  obtain rfl : w = w1 := hw1.symm
  have x1 : Ext w w := Below.refl _ _
  go_wp2_with fail
  refine (HCH.out d (by omega) (by omega) _).mono ?_
  rintro e w6 ⟨b6, A6, k6, c6, A6', k6', c6', rfl, h6, y6, n6, n6'⟩
  have hlo := y6.size
  go_upto_region 7 with (fail)
  have hG6 := FBox.new w6 (.bool b6) (.slice A6 k6 c6) (.slice A6' k6' c6') 28
  have Y6 : Ext w (w6.alloc (.cells #[.bool b6, .slice A6 k6 c6, .slice A6' k6' c6'] 28)) := ext_alloc y6 _
  have h6 := h6.below (ext_alloc (Below.refl _ _) (.cells #[.bool b6, .slice A6 k6 c6, .slice A6' k6' c6'] 28))
  have hsz6 : w6.heap.size < (w6.alloc (.cells #[.bool b6, .slice A6 k6 c6, .slice A6' k6' c6'] 28)).heap.size := by simp
  generalize w6.alloc (.cells #[.bool b6, .slice A6 k6 c6, .slice A6' k6' c6'] 28) = W6 at *
  generalize w6.heap.size = B6 at *
  go_wp2
  go_loopw [8, 11] (fun bv iv wr => ∃ x : Nat, (d ≤ x ∧ x ≤ m) ∧ iv = .int .i64 ((x : Int) + 1) ∧ bv = .int .i64 ((likeF n d (x - d) : Nat) : Int) ∧ FIs w wr B6 (pch n (likeF n d (x - d)) d)) (fun _ iv _ => m + 1 - (intOf iv).toNat)
  case atStart => exact ⟨d, ⟨Nat.le_refl _, h3⟩, rfl, by rw [Nat.sub_self]; rfl, b6, A6, k6, c6, A6', k6', c6', hG6, by rw [Nat.sub_self]; exact h6, Y6, n6, n6'⟩
  case round =>
    clear hG6 h6 Y6 n6 n6' hsz6
    obtain ⟨x, ⟨hx1, hx2⟩, rfl, rfl, cc, MA, mk, ml, MA', mk', ml', hM, vM, xM, nM, nM'⟩ := hrel
    have hyb := HLK.out (x - d)
    have HSX := Lib.hid (HLS.out x hx1)
    obtain ⟨y, hy⟩ : ∃ y, y = likeF n d (x - d) := ⟨_, rfl⟩
    rw [← hy] at vM hyb HSX ⊢
    have hy60 : y ≤ 60 := by omega
    have HY := Lib.hid hy
    have HM2 := Lib.hid (fun (w' : World) (h : Ext wr w') => hM.below h)
    have HMV := Lib.hid (fun (w' : World) (h : Ext wr w') => vM.below h)
    have HMA := Lib.hid (fun (w' : World) (h : Ext wr w') => FracV.any (HMV.out w' h) (HFB.out y hy60) (by omega))
    have hMl := hM.lt
    clear vM hy
    by_cases hxm : x < m
    · have hb1 : (x : Int) + 1 ≤ (m : Int) := by omega
      have hw1 : IntKind.i64.wrap ((x : Int) + 1 + 1) = (x : Int) + 1 + 1 := wrap_in (by omega)
      have HKA := Lib.hid (fun (w' : World) => (show Calls Tryz.prog 37 #[.int .i64 n, .int .i64 ((x : Int) + 1), .int .i64 d] w' (GivesFE w' (pch n (x + 1) d)) from by
        have h0 := HCH.out (x + 1) (by omega) (by omega) w'
        rw [show ((x + 1 : Nat) : Int) = (x : Int) + 1 from by omega] at h0
        exact h0))
      obtain ⟨p, hp⟩ : ∃ p, p = pch n (x + 1) d := ⟨_, rfl⟩
      have HFP := Lib.hid (show FB p 130 from by rw [hp]; exact HFB.out (x + 1) (by omega))
      rw [← hp] at HKA HSX
      obtain ⟨r, hr⟩ : ∃ r, r = pch n y d := ⟨_, rfl⟩
      rw [← hr] at HMA HSX HMV
      obtain ⟨z, hz⟩ : ∃ z, cmpQ p r = z := ⟨_, rfl⟩
      have HZ := Lib.hid hz
      have HZP := Lib.hid (show 0 < z ↔ r < p from by rw [← hz]; exact cmpQ_pos p r)
      have HP := Lib.hid hp
      have HR := Lib.hid hr
      clear hp hr hz hM
      go_wp2_with fail
      refine (HKA.out _).mono ?_
      rintro e w1 ⟨b1, A1, k1, c1, A1', k1', c1', rfl, h1, y1, n1, n1'⟩
      go_upto_region 11 with (fail)
      have hG1 := FBox.new w1 (.bool b1) (.slice A1 k1 c1) (.slice A1' k1' c1') 28
      have Y1 : Ext wr (w1.alloc (.cells #[.bool b1, .slice A1 k1 c1, .slice A1' k1' c1'] 28)) := ext_alloc y1 _
      have h1 := h1.below (ext_alloc (Below.refl _ _) (.cells #[.bool b1, .slice A1 k1 c1, .slice A1' k1' c1'] 28))
      have hsz1 : w1.heap.size < (w1.alloc (.cells #[.bool b1, .slice A1 k1 c1, .slice A1' k1' c1'] 28)).heap.size := by simp
      generalize w1.alloc (.cells #[.bool b1, .slice A1 k1 c1, .slice A1' k1' c1'] 28) = W1 at *
      generalize w1.heap.size = B1 at *
      have HG1 := Lib.hid (fun (w' : World) (h : Ext W1 w') => hG1.below h)
      have HV1 := Lib.hid (fun (w' : World) (h : Ext W1 w') => h1.below h)
      clear hG1 h1 hsz1
      obtain ⟨p0, p1, p2, _, _, _⟩ := HG1.out _ (Below.refl _ _)
      obtain ⟨m0, m1, m2, gm0, gm1, gm2⟩ := HM2.out _ Y1
      by_cases hzz : 0 < z
      · have hz1 : decide (0 < z) = true := decide_eq_true hzz
        have HST := Lib.hid (show likeF n d (x + 1 - d) = x + 1 from by rw [HSX.out, if_pos (HZP.out.1 hzz)])
        go_upto_region 12 with (go_at_call 36; (with_reducible refine (rcmp_e (FracV.any (HV1.out _ (Below.refl _ _)) HFP.out (by omega)) (HMA.out _ Y1) (by omega) (by omega) (by omega) HZ.out).mono ?_); rintro _ s4 ⟨rfl, z4⟩)
        have HS := Lib.hid (fun (w' : World) (h : Ext s4 w') => (⟨(HG1.out _ (z4.trans h)).1, (HG1.out _ (z4.trans h)).2.1, (HG1.out _ (z4.trans h)).2.2.1⟩ : w'.cell? ⟨B1, 0, none⟩ = some (.bool b1) ∧ w'.cell? ⟨B1, 1, none⟩ = some (.slice A1 k1 c1) ∧ w'.cell? ⟨B1, 2, none⟩ = some (.slice A1' k1' c1')))
        refine wp_region_G (fun w' => Ext s4 w') [3] (by kernel_rfl) ?_
        have gS : Ext s4 s4.drew := (Below.refl _ _).drew
        refine wpAnyG_take 0 (v := ?_) rfl (by kernel_rfl) (by kernel_rfl) (by kernel_rfl) (by kernel_rfl) (by rfl) (by kernel_rfl) (fun _ _ _ h => h) (by rfl) (fun w' hw' => ?_) gS ?_
        rotate_left
        focus (go_simp; (try with_reducible rfl); done)
        (try simp only [Act.put, List.setIfInBounds_toArray, List.set_cons_zero, List.set_cons_succ])
        refine wpAnyG_take 1 (v := ?_) rfl (by kernel_rfl) (by kernel_rfl) (by kernel_rfl) (by kernel_rfl) (by rfl) (by kernel_rfl) (fun _ _ _ h => h) (by rfl) (fun w' hw' => ?_) gS ?_
        rotate_left
        focus (have hh := HS.out _ hw'; go_split_ands; go_simp; (try with_reducible rfl); done)
        (try simp only [Act.put, List.setIfInBounds_toArray, List.set_cons_zero, List.set_cons_succ])
        refine wpAnyG_take 2 (v := ?_) rfl (by kernel_rfl) (by kernel_rfl) (by kernel_rfl) (by kernel_rfl) (by rfl) (by kernel_rfl) (fun _ _ _ h => h) (by rfl) (fun w' hw' => ?_) gS ?_
        rotate_left
        focus (go_simp; (try with_reducible rfl); done)
        (try simp only [Act.put, List.setIfInBounds_toArray, List.set_cons_zero, List.set_cons_succ])
        have f5 : Ext wr s4.drew := Y1.trans (z4.trans gS)
        have f6 : Ext W1 s4.drew := z4.trans gS
        obtain ⟨m0, m1, m2, gm0, gm1, gm2⟩ := HM2.out _ (Y1.trans z4)
        refine wpAnyG_one 3 (by kernel_rfl) rfl (by rfl) (fun K hK => ?_)
        go_simp
        refine hK.out _ _ (fun h => absurd h (by decide)) ?_
        clear hK K
        (try simp only [Act.put, List.setIfInBounds_toArray, List.set_cons_zero, List.set_cons_succ])
        refine wpAnyG_done (by kernel_rfl) ?_ _
        go_wp2
        go_roundw
        all_goals first
          | exact ⟨x + 1, ⟨by omega, by omega⟩, by go_num, by rw [HST.out]; go_num, b1, A1, k1, c1, A1', k1', c1', (HM2.out _ f5).put _ _ _, by rw [HST.out, ← HP.out]; exact FracV.put (HV1.out _ f6) n1 n1' hMl _ _ _, ext_put (xM.trans f5) hlo _ _ _, n1.mono xM.size, n1'.mono xM.size⟩
          | (simp [intOf]; omega)
      · have hz1 : decide (0 < z) = false := decide_eq_false hzz
        have HST := Lib.hid (show likeF n d (x + 1 - d) = y from by rw [HSX.out, if_neg (fun h => hzz (HZP.out.2 h))])
        go_wp2_with (go_at_call 36; (with_reducible refine (rcmp_e (FracV.any (HV1.out _ (Below.refl _ _)) HFP.out (by omega)) (HMA.out _ Y1) (by omega) (by omega) (by omega) HZ.out).mono ?_); rintro _ s4 ⟨rfl, z4⟩)
        have f5 : Ext wr s4 := Y1.trans z4
        go_roundw
        all_goals first
          | exact ⟨x + 1, ⟨by omega, by omega⟩, by go_num, by rw [HST.out], cc, MA, mk, ml, MA', mk', ml', HM2.out _ f5, by rw [HST.out, ← HR.out]; exact HMV.out _ f5, xM.trans f5, nM, nM'⟩
          | (simp [intOf]; omega)
    · obtain rfl : x = m := by omega
      have hb1 : ¬ ((x : Int) + 1 ≤ (x : Int)) := by omega
      go_wp2
      go_ret2
      exact ⟨by rw [← HY.out]; rfl, x1.trans xM⟩
set_option maxHeartbeats 4000000 in
theorem rlike_any {n d m : Int} {w : World} :
    Calls Tryz.prog 17 #[.int .i64 n, .int .i64 d, .int .i64 m] w (fun e w' => e = .returned (.tuple #[.int .i64 (likeV n d m), .int .i64 (likeE n d m)]) ∧ Ext w w') := by
  by_cases hin : DIn n d m
  · by_cases hmd : m < d
    · rw [(like_none hin hmd).1, (like_none hin hmd).2]
      have HCK := Lib.hid (fun w => rlimits_t hin w)
      have hmd2 : decide (m < d) = true := decide_eq_true hmd
      go_enter Tryz.func17, Tryz.ntmps17
      go_wp2_with fail
      refine (HCK.out _).mono ?_
      rintro e w1 ⟨rfl, hw1⟩
      obtain rfl : w = w1 := hw1.symm
      have x1 : Ext w w := Below.refl _ _
      go_wp2
      go_ret2
      exact ⟨rfl, x1⟩
    · obtain ⟨N, E, M, rfl, rfl, rfl, h1, h2, h3⟩ := din_nat hin
      obtain ⟨j, rfl⟩ : ∃ j, M = E + j := ⟨M - E, by omega⟩
      rw [(like_ok hin).1, (like_ok hin).2]
      have h := rlike_ok (w := w) (n := N) (d := E) (m := E + j) h1 h2 (by omega) (by omega)
      rw [Nat.add_sub_cancel_left] at h
      exact h
  · rw [(like_range hin).1, (like_range hin).2]
    have HCK := Lib.hid (fun w => rlimits_f hin w)
    go_enter Tryz.func17, Tryz.ntmps17
    go_wp2_with fail
    refine (HCK.out _).mono ?_
    rintro e w1 ⟨rfl, hw1⟩
    obtain rfl : w = w1 := hw1.symm
    have x1 : Ext w w := Below.refl _ _
    go_wp2
    go_ret2
    exact ⟨rfl, x1⟩

end Go.Proofs.YtjdpkmngboiemaaGreatDoor
