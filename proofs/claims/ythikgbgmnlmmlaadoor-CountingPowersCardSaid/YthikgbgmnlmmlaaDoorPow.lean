/- natural: Digits, Pow. -/
import Derived.Test.YthikgbgmnlmmlaaDoorText
import Derived.Test.YthikgbgmnlmmlaaDoorCount2
set_option linter.unusedVariables false
set_option linter.unusedSimpArgs false
set_option maxRecDepth 100000
namespace Go.Proofs.YthikgbgmnlmmlaaDoor
open Go.RowKit Num

/-- The call says a number of digits, at most 15. -/
def Dig15 (x : Value) (w : World) : Prop :=
  Calls Tryd.prog 59 #[.agg #[x]] w (fun e w' => ∃ d : Nat, d ≤ 15 ∧ e = .returned (.int .i64 d) ∧ Ext w w')

theorem digits_small {x : Value} {n : Nat} {w : World} (hx : NatV w x n) (hn : n < 100) : Dig15 x w := by
  unfold Dig15
  have hX := hx.alloc (.cells #[x] 25)
  by_cases h0 : n = 0
  · subst h0
    go_enter Tryd.func59, Tryd.ntmps59
    go_wp2_with (go_at_call 39; (with_reducible refine (text_zero hX).mono ?_); rintro e w1 ⟨rfl, x1⟩)
    go_ret
    exact ⟨1, by omega, rfl, ext_new x1⟩
  · have hl : ((⟨(Lib.decDigits n).toArray⟩ : ByteArray).size) ≤ 15 := by
      show (Lib.decDigits n).toArray.size ≤ 15
      rw [List.size_toArray]; have := decDigits_len hn; omega
    have HT := Lib.hid (fun w (h : NatV w x n) => text_smallV h (by omega) hn)
    generalize (⟨(Lib.decDigits n).toArray⟩ : ByteArray) = s at *
    go_enter Tryd.func59, Tryd.ntmps59
    go_wp2_with (go_at_call 39; (with_reducible refine (HT.out _ hX).mono ?_); rintro e w1 ⟨rfl, x1⟩)
    go_ret
    exact ⟨s.size, by omega, rfl, ext_new x1⟩

theorem and_one_256 : ∀ m : Fin 257, bits .and .i64 ((m.val : Nat) : Int) 1 = ((m.val % 2 : Nat) : Int) := by decide +kernel
theorem and_one {m : Nat} (h : m ≤ 256) : bits .and .i64 (m : Int) 1 = ((m % 2 : Nat) : Int) := and_one_256 ⟨m, by omega⟩

theorem pow_len {a p N : Nat} (ha : a < 1000000000) (hp : p ≤ N) (hN : N ≤ 256) : (limbsOf (a ^ p)).length ≤ 257 := by
  have := len_of_le_pow (x := a ^ p) (Nat.le_refl _) ha; omega

set_option maxHeartbeats 4000000 in
theorem pow_n {x : Value} {a N : Nat} {w : World} (hx : NatV w x a) (ha : a < 1000000000) (hN : N ≤ 256) (hD : ∀ w', NatV w' x a → Dig15 x w') :
    Calls Tryd.prog 38 #[.agg #[x], .int .i64 N] w (GivesT w (a ^ N) 0) := by
  have HD := Lib.hid hD
  clear hD
  have h256 : decide (256 < (N : Int)) = false := by simp; omega
  have hneg : decide ((N : Int) < 0) = false := by simp
  have HA := Lib.hid ha
  clear ha
  unfold Dig15 at HD
  go_enter Tryd.func38, Tryd.ntmps38
  go_upto_region 1 with (fail)
  have hB0 : Boxes w ((w.alloc (.cells #[x] 25)).alloc (.cells #[.slice none 0 0] 25)) [[x], [.slice none 0 0]] := ((Boxes.nil_ w).alloc rfl [x] 25).alloc (by simp) [.slice none 0 0] 25
  generalize (w.alloc (.cells #[x] 25)).alloc (.cells #[.slice none 0 0] 25) = W0 at *
  obtain ⟨cx, fx⟩ : W0.cell? ⟨w.heap.size, 0, none⟩ = some x ∧ W0.frozen? ⟨w.heap.size, 0, none⟩ = false := hB0.cell 0 _ 0 _ rfl rfl
  obtain ⟨cz, fz⟩ : W0.cell? ⟨w.heap.size + 1, 0, none⟩ = some (.slice none 0 0) ∧ W0.frozen? ⟨w.heap.size + 1, 0, none⟩ = false := hB0.cell 1 _ 0 _ rfl rfl
  have hE0 := hB0.ext
  have hX0 := hx.below hE0
  have hs0 : w.heap.size + 2 ≤ W0.heap.size := hB0.size
  clear hB0
  go_wp2_with fail
  refine (HD.out _ hX0).mono ?_
  rintro e w1 ⟨d, hd, rfl, x1⟩
  have cx1 := (x1.cell (p := ⟨w.heap.size, 0, none⟩) (World.block_lt_of_cell? _ _ cx)).trans cx
  have hX1 := hX0.below x1
  have hdN : (d : Int) * N ≤ 3840 := by
    have : d * N ≤ 15 * 256 := Nat.mul_le_mul hd hN
    rw [← Int.natCast_mul]; omega
  have hd0 : 0 ≤ (d : Int) * N := by rw [← Int.natCast_mul]; omega
  obtain ⟨t, ht⟩ : ∃ t : Int, (d : Int) * N = t := ⟨_, rfl⟩
  rw [ht] at hdN hd0
  have hs1 : w.heap.size + 2 ≤ w1.heap.size := Nat.le_trans hs0 x1.size
  have cy1 := (World.cell?_alloc_lt w1 (.cells #[.int .u32 1] 55) ⟨w.heap.size, 0, none⟩ (by show w.heap.size < _; omega)).trans cx1
  go_wp2_with fail
  refine (limbs_n (hX1.alloc _)).mono ?_
  rintro e w2 ⟨v2, rfl, h2, x2, n2⟩
  have hone : CanV w2 (.slice (some ⟨w1.heap.size, 0, none⟩) 1 1) 1 := by
    have h0 := World.ownsRow_lit (base := w1.heap.size) (e := 55) (size := 1) w1 #[.int .u32 1] 1 (Nat.le_refl _) (by unfold maxLen; omega) rfl
    have h1 := U32s.of_own (xs := [1]) (by simpa [u32s] using h0) (Nat.le_refl _) (by omega)
    unfold CanV
    rw [limbsOf_one (by omega) (by omega)]
    exact U32s.below h1 x2
  have hx2 : Ext W0 w2 := x1.trans (ext_new x2)
  have hnone : New (w.heap.size + 2) (.slice (some ⟨w1.heap.size, 0, none⟩) 1 1) := New.at_ hs1
  clear HD x1 cx1 cy1 x2 n2 cx fx hX1 hX0
  go_wp2
  go_loopw [1, 6, 7] (fun nv ov sv wr => ∃ m p q : Nat, nv = .int .i64 m ∧ m ≤ 256 ∧ Hid (p + q * m = N) ∧ CanV wr ov (a ^ p) ∧ CanV wr sv (a ^ q) ∧ New (w.heap.size + 2) ov ∧ Ext W0 wr) (fun nv _ _ _ => (intOf nv).toNat)
  case atStart => exact ⟨N, 0, 1, rfl, hN, by rw [Nat.one_mul, Nat.zero_add]; exact Lib.hid rfl, by rw [Nat.pow_zero]; exact hone, by rw [Nat.pow_one]; exact h2, hnone, hx2⟩
  case round =>
    obtain ⟨m, p, q, rfl, hm, hpq, ho, hs, no, hx⟩ := hrel
    by_cases hm0 : 0 < m
    · have HP1 := Lib.hid (show (limbsOf (a ^ p)).length ≤ 257 from by
        have h1 := hpq.out
        exact pow_len HA.out (show p ≤ N by omega) hN)
      have HP2 := Lib.hid (show (limbsOf (a ^ q)).length ≤ 257 from by
        have h1 := hpq.out
        exact pow_len HA.out (show q ≤ N by have := Nat.le_mul_of_pos_right q hm0; omega) hN)
      have HB := Lib.hid (and_one hm)
      have HEXP := Lib.hid (show ∀ r, m = 2 * (m / 2) + r → (a ^ q * a ^ q) = a ^ (2 * q) ∧ 2 * q * (m / 2) + q * r = q * m from by
        intro r hr
        refine ⟨by rw [← Nat.pow_add, show q + q = 2 * q from by omega], ?_⟩
        conv => rhs; rw [hr, Nat.mul_add, ← Nat.mul_assoc, Nat.mul_comm q 2])
      have HMD := Lib.hid (show (m : Int) / 2 = ((m / 2 : Nat) : Int) from by omega)
      rcases Nat.mod_two_eq_zero_or_one m with h2 | h2
      · have hb : (bits .and .i64 (m : Int) 1 != 0) = false := by rw [HB.out, h2]; rfl
        have H2 := Lib.hid h2
        have hm1 : (1 : Int) < m := by omega
        clear h2
        go_wp2_with fail
        refine (times_any hs hs (by have := HP2.out; omega)).mono ?_
        rintro e w3 ⟨v3, rfl, h3, x3, n3⟩
        go_wp2
        go_roundw
        case rel =>
          obtain ⟨e1, e2⟩ := HEXP.out 0 (by have := H2.out; omega)
          rw [e1] at h3
          exact ⟨m / 2, p, 2 * q, by rw [HMD.out], by omega, Lib.hid (by have := hpq.out; omega), ho.below x3, h3, no, hx.trans x3⟩
        case measure => simp [intOf]; omega
      · have hb : (bits .and .i64 (m : Int) 1 != 0) = true := by rw [HB.out, h2]; rfl
        have H2 := Lib.hid h2
        clear h2
        go_wp2_with fail
        refine (times_any ho hs (by have := HP1.out; have := HP2.out; omega)).mono ?_
        rintro e w3 ⟨v3, rfl, h3, x3, n3⟩
        have n3' := n3.mono (Nat.le_trans hs0 hx.size)
        rw [← Nat.pow_add] at h3
        by_cases hm1 : 1 < m
        · go_wp2_with fail
          refine (times_any (hs.below x3) (hs.below x3) (by have := HP2.out; omega)).mono ?_
          rintro e w4 ⟨v4, rfl, h4, x4, n4⟩
          go_wp2
          go_roundw
          case rel =>
            obtain ⟨e1, e2⟩ := HEXP.out 1 (by have := H2.out; omega)
            rw [e1] at h4
            exact ⟨m / 2, p + q, 2 * q, by rw [HMD.out], by omega, Lib.hid (by have := hpq.out; omega), h3.below x4, h4, n3', (hx.trans x3).trans x4⟩
          case measure => simp [intOf]; omega
        · go_wp2
          go_roundw
          case rel =>
            obtain ⟨e1, e2⟩ := HEXP.out 1 (by have := H2.out; omega)
            exact ⟨m / 2, p + q, q, by rw [HMD.out], by omega, Lib.hid (by have := hpq.out; rw [show m / 2 = 0 from by omega] at *; omega), h3, hs.below x3, n3', hx.trans x3⟩
          case measure => simp [intOf]; omega
    · obtain rfl : m = 0 := by omega
      have HPN := Lib.hid (show p = N from by have := hpq.out; omega)
      clear hpq
      have cz0 := (hx.cell (p := ⟨w.heap.size + 1, 0, none⟩) (World.block_lt_of_cell? _ _ cz)).trans cz
      have fz0 := (hx.frozen (p := ⟨w.heap.size + 1, 0, none⟩) (World.block_lt_of_cell? _ _ cz)).trans fz
      go_wp2_with fail
      refine (made_c ho no).mono ?_
      rintro e w3 ⟨A3, k3, c3, rfl, h3, x3, n3⟩
      have cz3 := (x3.cell (p := ⟨w.heap.size + 1, 0, none⟩) (World.block_lt_of_cell? _ _ cz0)).trans cz0
      have fz3 := (x3.frozen (p := ⟨w.heap.size + 1, 0, none⟩) (World.block_lt_of_cell? _ _ cz0)).trans fz0
      clear cz0 fz0 cz fz
      go_wp2
      refine bodyPost_ret (v := .tuple #[.agg #[.slice A3 k3 c3], .int .i64 0]) (by simp [results, Tryd.results38, go_sem, World.cell?_setCell_same _ _ _ cz3]) rfl ?_
      rw [HPN.out] at h3
      exact ⟨_, _, _, rfl, U32s.setNew h3 n3 (by show w.heap.size + 1 < _; omega) _, (hE0.trans (hx.trans x3)).setCell (by show w.heap.size ≤ w.heap.size + 1; omega) _, n3.mono (by omega)⟩

end Go.Proofs.YthikgbgmnlmmlaaDoor
