/- The reference's tail, Valid, AtMost, AtLeast. -/
import Derived.Test.YtjdpkmngboiemaaGreatDoorOcR
import Derived.Test.YtjdpkmngboiemaaGreatDoorOcV
set_option linter.unusedVariables false
set_option linter.unusedSimpArgs false
set_option maxRecDepth 100000
namespace Go.Proofs.YtjdpkmngboiemaaGreatDoor
open Go.RowKit Num

def tailF (n D : Nat) (low high : Int) (i : Nat) : Nat := if low ≤ (i : Int) ∧ (i : Int) ≤ high then occ n D i else 0
theorem tailF_le (n D : Nat) (low high : Int) (i : Nat) : tailF n D low high i ≤ occ n D i := by unfold tailF; split <;> omega
theorem sumTo_le {f g : Nat → Nat} {n : Nat} (h : ∀ k, k < n → f k ≤ g k) : sumTo f n ≤ sumTo g n := by
  induction n with
  | zero => exact Nat.le_refl _
  | succ n ih => rw [sumTo_succ, sumTo_succ]; exact Nat.add_le_add (ih fun k hk => h k (by omega)) (h n (by omega))
theorem tail_len {n D k : Nat} {low high : Int} (hn : n ≤ 30) (hD : D ≤ 60) (hk : k ≤ n + 1) : (limbsOf (sumTo (tailF n D low high) k)).length ≤ 32 := by
  have h1 : sumTo (tailF n D low high) k ≤ D ^ n := by
    rw [← occ_sum n D]
    exact Nat.le_trans (sumTo_le fun j _ => tailF_le n D low high j) (sumTo_mono hk)
  have h2 := limbsOf_length_mono h1
  have h3 := all_small hn hD
  omega

set_option maxHeartbeats 8000000 in
theorem rtail_n {n D : Nat} {low high : Int} {w : World} (hn : n ≤ 30) (hD1 : 1 ≤ D) (hD : D ≤ 60) :
    Calls Tryz.prog 61 #[.int .i64 n, .int .i64 D, .int .i64 low, .int .i64 high] w (GivesF w (frac false (sumTo (tailF n D low high) (n + 1)) (D ^ n))) := by
  have HL3 := Lib.hid (all_small hn hD)
  have HT := Lib.hid (fun k (hk : k ≤ n + 1) => tail_len (low := low) (high := high) hn hD hk)
  go_enter Tryz.func61, Tryz.ntmps61
  go_upto_region 1 with (fail)
  have hB0 := FBox.new w (.bool false) (.slice none 0 0) (.slice none 0 0) 28
  have x0 : Ext w (w.alloc (.cells #[.bool false, .slice none 0 0, .slice none 0 0] 28)) := ext_alloc (Below.refl _ _) _
  have hs0 : w.heap.size + 1 ≤ (w.alloc (.cells #[.bool false, .slice none 0 0, .slice none 0 0] 28)).heap.size := by simp
  generalize (w.alloc (.cells #[.bool false, .slice none 0 0, .slice none 0 0] 28)) = W0 at *
  have HF := Lib.hid (fun (w' : World) (h : Ext W0 w') => hB0.below h)
  obtain ⟨r0, r1, r2, g0, g1, g2⟩ := hB0
  have HE := Lib.hid x0
  clear x0
  have f0 : Ext W0 W0 := Below.refl _ _
  go_wp2_with fail
  refine (rways_n (n := n) (D := D) hn hD1 hD).mono ?_
  rintro e w4 ⟨A, c, A4, k4, c4, rfl, hV, h4, y4, nV, n4⟩
  rw [upto_length] at hV nV ⊢
  obtain ⟨_, _, e0, hcap1, hcap2⟩ := hV.form
  rw [upto_length] at e0 hcap1
  injection e0 with e1 e2 e3
  subst e1 e3
  clear e2
  go_upto_region 2 with (fail)
  have hB4 : (w4.alloc (.cells #[.slice A4 k4 c4] 26)).cell? ⟨w4.heap.size, 0, none⟩ = some (.slice A4 k4 c4) := by simp [go_sem]
  have Y4 : Ext W0 (w4.alloc (.cells #[.slice A4 k4 c4] 26)) := ext_alloc y4 _
  have h4 := h4.below (ext_alloc (Below.refl _ _) (.cells #[.slice A4 k4 c4] 26))
  have hV := hV.below (ext_alloc (Below.refl _ _) (.cells #[.slice A4 k4 c4] 26))
  have hsz4 : w4.heap.size < (w4.alloc (.cells #[.slice A4 k4 c4] 26)).heap.size := by simp
  have hlo4 : W0.heap.size ≤ w4.heap.size := y4.size
  generalize w4.alloc (.cells #[.slice A4 k4 c4] 26) = W4 at *
  generalize w4.heap.size = B4 at *
  have HB4 := Lib.hid (fun (w' : World) (h : Ext W4 w') => ((h.cell (p := ⟨B4, 0, none⟩) (World.block_lt_of_cell? _ _ hB4)).trans hB4 : w'.cell? ⟨B4, 0, none⟩ = some (.slice A4 k4 c4)))
  clear hB4 y4
  have HV := Lib.hid (fun (w' : World) (h : Ext W4 w') => hV.ext h)
  have HN4 := Lib.hid (fun (w' : World) (h : Ext W4 w') => NatV.below (h4.nat (by have := HL3.out; unfold Fit; omega)) h)
  clear hV h4 nV n4
  go_wp2_with fail
  refine (rof_e (m := 0) rfl (by omega)).mono ?_
  rintro e w6 ⟨A6, k6, c6, rfl, h6, y6, n6⟩
  have hlo : W4.heap.size ≤ w6.heap.size := y6.size
  have hO : OutB W4 w6.heap.size W4.heap.size 0 (w6.alloc (.cells #[.slice A6 k6 c6] 26)) := ⟨A6, k6, c6, by simp [go_sem], by simp [go_sem], h6.alloc _, ext_alloc y6 _, n6⟩
  clear h6 y6 n6
  go_wp2
  generalize w6.alloc (.cells #[.slice A6 k6 c6] 26) = W1 at *
  generalize w6.heap.size = b6 at *
  go_loopw [12] (fun iv wr => ∃ k : Nat, k ≤ n + 1 ∧ iv = .int .i64 k ∧ OutB W4 b6 W4.heap.size (sumTo (tailF n D low high) k) wr) (fun iv _ => n + 1 - (intOf iv).toNat)
  case atStart => exact ⟨0, Nat.zero_le _, rfl, hO⟩
  case round =>
    clear hO
    obtain ⟨k, hk, rfl, ⟨MA, mk, ml, hc, hf, hC, hx, hN⟩⟩ := hrel
    by_cases hkn : k < n + 1
    · have hb1 : (k : Int) < (n : Int) + 1 := by omega
      have hb2 : (0 : Int) ≤ (k : Int) := by omega
      by_cases h1 : low ≤ (k : Int)
      · by_cases h2 : (k : Int) ≤ high
        · obtain ⟨ab, ao, A5, k5, c5, rfl, hb5, hc5, hn5, _⟩ := (HV.out _ hx).pl (k := k) (upto_at (by omega))
          have hlx : b6 < wr.heap.size := World.block_lt_of_cell? _ _ hc
          have HCC := Lib.hid (fun (w' : World) (h : Ext wr w') => (⟨(h.cell (p := ⟨b6, 0, none⟩) hlx).trans hc, (h.frozen (p := ⟨b6, 0, none⟩) hlx).trans hf⟩ : w'.cell? ⟨b6, 0, none⟩ = some (.slice MA mk ml) ∧ w'.frozen? ⟨b6, 0, none⟩ = false))
          have HS := Lib.hid (fun (w' : World) (h : Ext wr w') => (⟨(HCC.out w' h).1, (h.cell (p := ⟨_, _, none⟩) hb5).trans hc5⟩ : w'.cell? ⟨b6, 0, none⟩ = some (.slice MA mk ml) ∧ w'.cell? ⟨_, _, none⟩ = some (.slice A5 k5 c5)))
          have HB1 := Lib.hid (occ_len (n := n) (D := D) (d := k) (by omega) hD)
          have HN5 := Lib.hid (fun (w' : World) (h : Ext wr w') => (CanV.nat hn5 (by unfold Fit; have := HB1.out; omega)).below h)
          have HNY := Lib.hid (fun (w' : World) (h : Ext wr w') => (CanV.nat hC (by unfold Fit; have := HT.out k hk; omega)).below h)
          have HST := Lib.hid (show sumTo (tailF n D low high) (k + 1) = sumTo (tailF n D low high) k + occ n D k from by rw [sumTo_succ]; unfold tailF; rw [if_pos ⟨h1, h2⟩])
          clear hn5 hc5 hb5 hC hc hf
          go_upto_region 7 with (fail)
          refine wp_region_G (fun w' => Ext wr w') [6] (by kernel_rfl) ?_
          have gS : Ext wr wr.drew := (Below.refl _ _).drew
          refine wpAnyG_take 0 (v := ?_) rfl (by kernel_rfl) (by kernel_rfl) (by kernel_rfl) (by kernel_rfl) (by rfl) (by kernel_rfl) (fun _ _ _ h => h) (by rfl) (fun w' hw' => ?_) gS ?_
          rotate_left
          focus (have hh := HS.out _ hw'; go_split_ands; go_simp; (try with_reducible rfl); done)
          (try simp only [Act.put, List.setIfInBounds_toArray, List.set_cons_zero, List.set_cons_succ])
          refine wpAnyG_take 1 (v := ?_) rfl (by kernel_rfl) (by kernel_rfl) (by kernel_rfl) (by kernel_rfl) (by rfl) (by kernel_rfl) (fun _ _ _ h => h) (by rfl) (fun w' hw' => ?_) gS ?_
          rotate_left
          focus (go_simp; (try with_reducible rfl); done)
          (try simp only [Act.put, List.setIfInBounds_toArray, List.set_cons_zero, List.set_cons_succ])
          refine wpAnyG_take 2 (v := ?_) rfl (by kernel_rfl) (by kernel_rfl) (by kernel_rfl) (by kernel_rfl) (by rfl) (by kernel_rfl) (fun _ _ _ h => h) (by rfl) (fun w' hw' => ?_) gS ?_
          rotate_left
          focus (go_simp; (try with_reducible rfl); done)
          (try simp only [Act.put, List.setIfInBounds_toArray, List.set_cons_zero, List.set_cons_succ])
          refine wpAnyG_take 3 (v := ?_) rfl (by kernel_rfl) (by kernel_rfl) (by kernel_rfl) (by kernel_rfl) (by rfl) (by kernel_rfl) (fun _ _ _ h => h) (by rfl) (fun w' hw' => ?_) gS ?_
          rotate_left
          focus (go_simp; (try with_reducible rfl); done)
          (try simp only [Act.put, List.setIfInBounds_toArray, List.set_cons_zero, List.set_cons_succ])
          refine wpAnyG_take 4 (v := ?_) rfl (by kernel_rfl) (by kernel_rfl) (by kernel_rfl) (by kernel_rfl) (by rfl) (by kernel_rfl) (fun _ _ _ h => h) (by rfl) (fun w' hw' => ?_) gS ?_
          rotate_left
          focus (have hh := HS.out _ hw'; go_split_ands; go_simp; (try with_reducible rfl); done)
          (try simp only [Act.put, List.setIfInBounds_toArray, List.set_cons_zero, List.set_cons_succ])
          refine wpAnyG_one 5 (by kernel_rfl) rfl (by rfl) (fun K hK => ?_)
          go_simp
          go_at_call 91
          refine (radd_n (HNY.out _ gS) (HN5.out _ gS) (by have := HT.out k hk; omega) (by have := HB1.out; omega)).mono ?_
          rintro e w16 ⟨A16, k16, c16, rfl, h16, x16, n16⟩
          have gS : Ext wr w16 := Ext.trans gS x16
          obtain ⟨hc, hf⟩ := HCC.out _ gS
          (try go_wp2_with fail)
          refine hK.out _ _ (fun _ => gS) ?_
          clear hK K
          (try simp only [Act.put, List.setIfInBounds_toArray, List.set_cons_zero, List.set_cons_succ])
          refine wpAnyG_one 6 (by kernel_rfl) rfl (by rfl) (fun K hK => ?_)
          go_simp
          refine hK.out _ _ (fun h => absurd h (by decide)) ?_
          clear hK K
          (try simp only [Act.put, List.setIfInBounds_toArray, List.set_cons_zero, List.set_cons_succ])
          refine wpAnyG_done (by kernel_rfl) ?_ _
          have hO := OutB.set (B := W4.heap.size) hc hf h16 (hx.trans gS) n16 (by simp; omega) (by have := hx.size; simp; omega) hlo
          rw [← HST.out] at hO
          clear h16 x16 n16 hc hf gS
          generalize w16.setCell ⟨b6, 0, none⟩ (.slice A16 k16 c16) = WC at *
          go_wp2
          go_roundw
          case rel => exact ⟨k + 1, by omega, by go_num, hO⟩
          case measure => first | (simp [intOf]; done) | (simp [intOf]; omega)
        · have hd2 : decide ((k : Int) ≤ high) = false := by simpa using h2
          have HST := Lib.hid (show sumTo (tailF n D low high) (k + 1) = sumTo (tailF n D low high) k from by rw [sumTo_succ]; unfold tailF; rw [if_neg (by omega)]; rfl)
          have hO : OutB W4 b6 W4.heap.size (sumTo (tailF n D low high) (k + 1)) wr := ⟨MA, mk, ml, hc, hf, by rw [HST.out]; exact hC, hx, hN⟩
          clear hC
          go_wp2
          go_roundw
          case rel => exact ⟨k + 1, by omega, by go_num, hO⟩
          case measure => first | (simp [intOf]; done) | (simp [intOf]; omega)
      · have hd1 : decide (low ≤ (k : Int)) = false := by simpa using h1
        have HST := Lib.hid (show sumTo (tailF n D low high) (k + 1) = sumTo (tailF n D low high) k from by rw [sumTo_succ]; unfold tailF; rw [if_neg (by omega)]; rfl)
        have hO : OutB W4 b6 W4.heap.size (sumTo (tailF n D low high) (k + 1)) wr := ⟨MA, mk, ml, hc, hf, by rw [HST.out]; exact hC, hx, hN⟩
        clear hC
        go_wp2
        go_roundw
        case rel => exact ⟨k + 1, by omega, by go_num, hO⟩
        case measure => first | (simp [intOf]; done) | (simp [intOf]; omega)
    · obtain rfl : k = n + 1 := by omega
      have hb1 : ¬ ((n : Int) + 1 < (n : Int) + 1) := by omega
      have hCN := CanV.nat hC (by unfold Fit; have := HT.out (n + 1) (by omega); omega)
      have c00 := HB4.out _ hx
      obtain ⟨r0, r1, r2, g0, g1, g2⟩ := HF.out _ (Y4.trans hx)
      clear hC
      go_wp2_with (go_at_call 57; (with_reducible refine (rnew_n (b := false) hCN (HN4.out _ hx) (by have := HT.out (n + 1) (by omega); omega) (by have := HL3.out; omega)).mono ?_); rintro _ s6 ⟨b6', A6', k6', c6', B6', l6', d6', rfl, h6, z6, n6, m6⟩; obtain ⟨r0, r1, r2, g0, g1, g2⟩ := HF.out _ (Y4.trans (hx.trans z6)))
      obtain ⟨q0, q1, q2⟩ := set3 r0 r1 r2 (.bool b6') (.slice A6' k6' c6') (.slice B6' l6' d6')
      refine bodyPost_ret (v := .agg #[.bool b6', .slice A6' k6' c6', .slice B6' l6' d6']) (by simp [results, Tryz.results61, go_sem, q0, q1, q2]) rfl ?_
      exact GivesF.box (B := w.heap.size) (HE.out.trans (Y4.trans (hx.trans z6))) h6 (n6.mono (by have := hx.size; have := Y4.size; omega)) (m6.mono (by have := hx.size; have := Y4.size; omega)) (by omega)

theorem rin_n {n low high : Int} {w : World} (b : Bool) (hb : b = (decide (low ≤ n) && decide (n ≤ high))) : Calls Tryz.prog 56 #[.int .i64 n, .int .i64 low, .int .i64 high] w (fun e w' => e = .returned (.bool b) ∧ w' = w) := by
  by_cases h1 : low ≤ n
  · by_cases h2 : n ≤ high
    · obtain rfl : b = true := by rw [hb]; simp [h1, h2]
      clear hb
      go_enter Tryz.func56, Tryz.ntmps56
      go_wp2
      go_ret
      exact ⟨rfl, rfl⟩
    · obtain rfl : b = false := by rw [hb]; simp [h2]
      clear hb
      go_enter Tryz.func56, Tryz.ntmps56
      go_wp2
      go_ret
      exact ⟨rfl, rfl⟩
  · obtain rfl : b = false := by rw [hb]; simp [h1]
    clear hb
    go_enter Tryz.func56, Tryz.ntmps56
    go_wp2
    go_ret
    exact ⟨rfl, rfl⟩
theorem rin_t {n low high : Int} {w : World} (h1 : low ≤ n) (h2 : n ≤ high) : Calls Tryz.prog 56 #[.int .i64 n, .int .i64 low, .int .i64 high] w (fun e w' => e = .returned (.bool true) ∧ w' = w) := rin_n true (by simp [h1, h2])
theorem rin_f {n low high : Int} {w : World} (h : n < low ∨ high < n) : Calls Tryz.prog 56 #[.int .i64 n, .int .i64 low, .int .i64 high] w (fun e w' => e = .returned (.bool false) ∧ w' = w) := rin_n false (by
  symm
  rw [Bool.and_eq_false_iff]
  rcases h with h | h
  · exact .inl (decide_eq_false (by omega))
  · exact .inr (decide_eq_false (by omega)))
theorem rvalid_t {n D : Int} {w : World} (h1 : 0 ≤ n ∧ n ≤ 30) (h2 : 1 ≤ D ∧ D ≤ 60) : Calls Tryz.prog 60 #[.int .i64 n, .int .i64 D] w (fun e w' => e = .returned (.bool true) ∧ w' = w) := by
  go_enter Tryz.func60, Tryz.ntmps60
  go_wp2_with (go_at_call 56; (with_reducible refine (rin_t (by omega) (by omega)).mono ?_); rintro e w1 ⟨rfl, rfl⟩)
  go_ret
  exact ⟨rfl, rfl⟩
theorem rvalid_f {n D : Int} {w : World} (h : ¬ OccIn n D) : Calls Tryz.prog 60 #[.int .i64 n, .int .i64 D] w (fun e w' => e = .returned (.bool false) ∧ w' = w) := by
  unfold OccIn at h
  by_cases hn : 0 ≤ n ∧ n ≤ 30
  · have hD : D < 1 ∨ 60 < D := by omega
    go_enter Tryz.func60, Tryz.ntmps60
    go_wp2_with (first
      | (go_at_call 56; (with_reducible refine (rin_t (n := n) (by omega) (by omega)).mono ?_); rintro e w1 ⟨rfl, rfl⟩)
      | (go_at_call 56; (with_reducible refine (rin_f (n := D) (by omega)).mono ?_); rintro e w1 ⟨rfl, rfl⟩))
    go_ret
    exact ⟨rfl, rfl⟩
  · have hD : n < 0 ∨ 30 < n := by omega
    go_enter Tryz.func60, Tryz.ntmps60
    go_wp2_with (go_at_call 56; (with_reducible refine (rin_f (n := n) (by omega)).mono ?_); rintro e w1 ⟨rfl, rfl⟩)
    go_ret
    exact ⟨rfl, rfl⟩

set_option maxHeartbeats 4000000 in
theorem ratmost_ok {n D : Nat} {d : Int} {w : World} (hn : n ≤ 30) (hD1 : 1 ≤ D) (hD : D ≤ 60) :
    Calls Tryz.prog 34 #[.int .i64 n, .int .i64 D, .int .i64 d] w (GivesFE w (frac false (sumTo (tailF n D 0 d) (n + 1)) (D ^ n))) := by
  go_enter Tryz.func34, Tryz.ntmps34
  go_upto_region 1 with (fail)
  have hF0 := FBox.new w (.bool false) (.slice none 0 0) (.slice none 0 0) 28
  have x0 : Ext w (w.alloc (.cells #[.bool false, .slice none 0 0, .slice none 0 0] 28)) := ext_alloc (Below.refl _ _) _
  have hs0 : w.heap.size + 1 ≤ (w.alloc (.cells #[.bool false, .slice none 0 0, .slice none 0 0] 28)).heap.size := by simp
  generalize w.alloc (.cells #[.bool false, .slice none 0 0, .slice none 0 0] 28) = W0 at *
  have HF := Lib.hid (fun (w' : World) (h : Ext W0 w') => hF0.below h)
  have HE := Lib.hid x0
  have f0 : Ext W0 W0 := Below.refl _ _
  obtain ⟨r0, r1, r2, g0, g1, g2⟩ := hF0
  clear x0
  go_wp2_with (first
    | (go_at_call 60; (with_reducible refine (rvalid_t (n := (n : Int)) (D := (D : Int)) (by omega) (by omega)).mono ?_); rintro e w1 ⟨rfl, rfl⟩)
    | (go_at_call 61; (with_reducible refine (rtail_n (low := 0) (high := d) hn hD1 hD).mono ?_); rintro e s3 ⟨b3, A3, k3, c3, B3, l3, d3, rfl, h3, z3, n3, m3⟩; obtain ⟨r0, r1, r2, g0, g1, g2⟩ := HF.out _ z3))
  obtain ⟨q0, q1, q2⟩ := set3 r0 r1 r2 (.bool b3) (.slice A3 k3 c3) (.slice B3 l3 d3)
  refine bodyPost_ret (v := .tuple #[.agg #[.bool b3, .slice A3 k3 c3, .slice B3 l3 d3], .int .i64 0]) (by simp [results, Tryz.results34, go_sem, q0, q1, q2]) rfl ?_
  exact GivesFE.box (HE.out.trans z3) h3 (n3.mono (by omega)) (m3.mono (by omega)) (Nat.le_refl _)
set_option maxHeartbeats 2000000 in
theorem ratmost_no {n D d : Int} {w : World} (h : ¬ OccIn n D) : Calls Tryz.prog 34 #[.int .i64 n, .int .i64 D, .int .i64 d] w (GivesFN w 2) := by
  go_enter Tryz.func34, Tryz.ntmps34
  go_upto_region 1 with (fail)
  have hF0 := FBox.new w (.bool false) (.slice none 0 0) (.slice none 0 0) 28
  have x0 : Ext w (w.alloc (.cells #[.bool false, .slice none 0 0, .slice none 0 0] 28)) := ext_alloc (Below.refl _ _) _
  have hs0 : w.heap.size + 1 ≤ (w.alloc (.cells #[.bool false, .slice none 0 0, .slice none 0 0] 28)).heap.size := by simp
  generalize w.alloc (.cells #[.bool false, .slice none 0 0, .slice none 0 0] 28) = W0 at *
  have HF := Lib.hid (fun (w' : World) (h : Ext W0 w') => hF0.below h)
  have HE := Lib.hid x0
  have f0 : Ext W0 W0 := Below.refl _ _
  obtain ⟨r0, r1, r2, g0, g1, g2⟩ := hF0
  clear x0
  go_wp2_with (go_at_call 60; (with_reducible refine (rvalid_f h).mono ?_); rintro e w1 ⟨rfl, rfl⟩)
  obtain ⟨q0, q1, q2⟩ := set3 r0 r1 r2 (.bool false) (.slice none 0 0) (.slice none 0 0)
  refine bodyPost_ret (v := .tuple #[.agg #[.bool false, .slice none 0 0, .slice none 0 0], .int .i64 2]) (by simp [results, Tryz.results34, go_sem, q0, q1, q2]) rfl ?_
  exact ⟨rfl, ext_put HE.out (Nat.le_refl _) _ _ _⟩

set_option maxHeartbeats 4000000 in
theorem ratleast_ok {n D : Nat} {d : Int} {w : World} (hn : n ≤ 30) (hD1 : 1 ≤ D) (hD : D ≤ 60) :
    Calls Tryz.prog 35 #[.int .i64 n, .int .i64 D, .int .i64 d] w (GivesFE w (frac false (sumTo (tailF n D d (n : Int)) (n + 1)) (D ^ n))) := by
  go_enter Tryz.func35, Tryz.ntmps35
  go_upto_region 1 with (fail)
  have hF0 := FBox.new w (.bool false) (.slice none 0 0) (.slice none 0 0) 28
  have x0 : Ext w (w.alloc (.cells #[.bool false, .slice none 0 0, .slice none 0 0] 28)) := ext_alloc (Below.refl _ _) _
  have hs0 : w.heap.size + 1 ≤ (w.alloc (.cells #[.bool false, .slice none 0 0, .slice none 0 0] 28)).heap.size := by simp
  generalize w.alloc (.cells #[.bool false, .slice none 0 0, .slice none 0 0] 28) = W0 at *
  have HF := Lib.hid (fun (w' : World) (h : Ext W0 w') => hF0.below h)
  have HE := Lib.hid x0
  have f0 : Ext W0 W0 := Below.refl _ _
  obtain ⟨r0, r1, r2, g0, g1, g2⟩ := hF0
  clear x0
  go_wp2_with (first
    | (go_at_call 60; (with_reducible refine (rvalid_t (n := (n : Int)) (D := (D : Int)) (by omega) (by omega)).mono ?_); rintro e w1 ⟨rfl, rfl⟩)
    | (go_at_call 61; (with_reducible refine (rtail_n (low := d) (high := (n : Int)) hn hD1 hD).mono ?_); rintro e s3 ⟨b3, A3, k3, c3, B3, l3, d3, rfl, h3, z3, n3, m3⟩; obtain ⟨r0, r1, r2, g0, g1, g2⟩ := HF.out _ z3))
  obtain ⟨q0, q1, q2⟩ := set3 r0 r1 r2 (.bool b3) (.slice A3 k3 c3) (.slice B3 l3 d3)
  refine bodyPost_ret (v := .tuple #[.agg #[.bool b3, .slice A3 k3 c3, .slice B3 l3 d3], .int .i64 0]) (by simp [results, Tryz.results35, go_sem, q0, q1, q2]) rfl ?_
  exact GivesFE.box (HE.out.trans z3) h3 (n3.mono (by omega)) (m3.mono (by omega)) (Nat.le_refl _)
set_option maxHeartbeats 2000000 in
theorem ratleast_no {n D d : Int} {w : World} (h : ¬ OccIn n D) : Calls Tryz.prog 35 #[.int .i64 n, .int .i64 D, .int .i64 d] w (GivesFN w 2) := by
  go_enter Tryz.func35, Tryz.ntmps35
  go_upto_region 1 with (fail)
  have hF0 := FBox.new w (.bool false) (.slice none 0 0) (.slice none 0 0) 28
  have x0 : Ext w (w.alloc (.cells #[.bool false, .slice none 0 0, .slice none 0 0] 28)) := ext_alloc (Below.refl _ _) _
  have hs0 : w.heap.size + 1 ≤ (w.alloc (.cells #[.bool false, .slice none 0 0, .slice none 0 0] 28)).heap.size := by simp
  generalize w.alloc (.cells #[.bool false, .slice none 0 0, .slice none 0 0] 28) = W0 at *
  have HF := Lib.hid (fun (w' : World) (h : Ext W0 w') => hF0.below h)
  have HE := Lib.hid x0
  have f0 : Ext W0 W0 := Below.refl _ _
  obtain ⟨r0, r1, r2, g0, g1, g2⟩ := hF0
  clear x0
  go_wp2_with (go_at_call 60; (with_reducible refine (rvalid_f h).mono ?_); rintro e w1 ⟨rfl, rfl⟩)
  obtain ⟨q0, q1, q2⟩ := set3 r0 r1 r2 (.bool false) (.slice none 0 0) (.slice none 0 0)
  refine bodyPost_ret (v := .tuple #[.agg #[.bool false, .slice none 0 0, .slice none 0 0], .int .i64 2]) (by simp [results, Tryz.results35, go_sem, q0, q1, q2]) rfl ?_
  exact ⟨rfl, ext_put HE.out (Nat.le_refl _) _ _ _⟩

end Go.Proofs.YtjdpkmngboiemaaGreatDoor
