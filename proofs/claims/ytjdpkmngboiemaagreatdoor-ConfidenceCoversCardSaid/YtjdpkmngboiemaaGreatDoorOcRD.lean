/- The reference's Distribution and Chance. -/
import Derived.Test.YtjdpkmngboiemaaGreatDoorOcRT
import Derived.Test.YtjdpkmngboiemaaGreatDoorOcD
import Derived.Test.YtjdpkmngboiemaaGreatDoorFrlS
set_option linter.unusedVariables false
set_option linter.unusedSimpArgs false
set_option maxRecDepth 100000
namespace Go.Proofs.YtjdpkmngboiemaaGreatDoor
open Go.RowKit Num

theorem OwnF.empty {e : TypeId} {base B : Nat} (w : World) (hb : base ≤ w.heap.size) : OwnF e base B (w.alloc (.cells #[] e)) (.slice (some ⟨w.heap.size, 0, none⟩) 0 0) [] [] := by
  refine ⟨⟨?_, rfl⟩, by simp⟩
  have := World.ownsRow_lit (base := base) (e := e) (size := 3) w #[] 0 hb (by unfold maxLen; omega) rfl
  simpa [fcells] using this
theorem FracsV.mono {B B' : Nat} {w : World} {v : Value} {qs : List Rat} (h : FracsV B w v qs) (hB : B' ≤ B) : FracsV B' w v qs := by
  obtain ⟨A, cap, ts, h1, h2, h3, h4, h5, h6⟩ := h
  exact ⟨A, cap, ts, h1, h2, h3, h4, h5, fun k t q hu hm => ⟨(h6 k t q hu hm).1, (h6 k t q hu hm).2.1.mono hB, (h6 k t q hu hm).2.2.mono hB⟩⟩
theorem pch_fracI (n D k : Nat) : frac false (occ n D k) (D ^ n) = pchI n D (k : Int) := by
  unfold pchI
  rw [if_neg (by omega), Int.toNat_natCast, frac_false]
  rfl
/-- A list of fractions and an error number. -/
def GivesFLP (w : World) (qs : List Rat) (er : Int) (e : Ending) (w' : World) : Prop := ∃ A c, e = .returned (.tuple #[.slice A qs.length c, .int .i64 er]) ∧ FracsV w.heap.size w' (.slice A qs.length c) qs ∧ Ext w w' ∧ New w.heap.size (.slice A qs.length c)
theorem GivesFL.p {w w' : World} {qs : List Rat} {e : Ending} (h : GivesFL w qs e w') : GivesFLP w qs 0 e w' := h
theorem GivesFLP.none_ {w w' : World} {er : Int} (h : Ext w w') : GivesFLP w [] er (.returned (.tuple #[.slice none 0 0, .int .i64 er])) w' := ⟨none, 0, rfl, FracsV.nil_ _ _, h, New.nil_ _⟩

set_option maxHeartbeats 8000000 in
theorem rdist_ok {n D : Nat} {w : World} (hn : n ≤ 30) (hD1 : 1 ≤ D) (hD : D ≤ 60) :
    Calls Tryz.prog 63 #[.int .i64 n, .int .i64 D] w (GivesFL w (uptoQ (fun d => pchI n D d) (n + 1))) := by
  obtain ⟨i0, hi, hz0, hz1, hz2⟩ := info_parts info_frac
  have HL3 := Lib.hid (all_small hn hD)
  go_enter Tryz.func63, Tryz.ntmps63
  go_wp2_with (go_at_call 60; (with_reducible refine (rvalid_t (n := (n : Int)) (D := (D : Int)) (by omega) (by omega)).mono ?_); rintro e w1 ⟨rfl, rfl⟩)
  go_wp2_with fail
  refine (rways_n (n := n) (D := D) hn hD1 hD).mono ?_
  rintro e w4 ⟨A, c, A4, k4, c4, rfl, hV, h4, y4, nV, n4⟩
  rw [upto_length] at hV nV ⊢
  obtain ⟨_, _, e0, hcap1, hcap2⟩ := hV.form
  rw [upto_length] at e0 hcap1
  injection e0 with e1 e2 e3
  subst e1 e3
  clear e2
  obtain ⟨w0, hw0⟩ : ∃ w0, w0 = w1 := ⟨_, rfl⟩
  subst hw0
  go_upto_region 4 with (fail)
  have hB4 : (w4.alloc (.cells #[.slice A4 k4 c4] 26)).cell? ⟨w4.heap.size, 0, none⟩ = some (.slice A4 k4 c4) := by simp [go_sem]
  have Y4 : Ext w0 (w4.alloc (.cells #[.slice A4 k4 c4] 26)) := ext_alloc y4 _
  have h4 := h4.below (ext_alloc (Below.refl _ _) (.cells #[.slice A4 k4 c4] 26))
  have hV := hV.below (ext_alloc (Below.refl _ _) (.cells #[.slice A4 k4 c4] 26))
  have hsz4 : w4.heap.size < (w4.alloc (.cells #[.slice A4 k4 c4] 26)).heap.size := by simp
  have hlo4 : w0.heap.size ≤ w4.heap.size := y4.size
  generalize w4.alloc (.cells #[.slice A4 k4 c4] 26) = W4 at *
  generalize w4.heap.size = B4 at *
  have HB4 := Lib.hid (fun (w' : World) (h : Ext W4 w') => ((h.cell (p := ⟨B4, 0, none⟩) (World.block_lt_of_cell? _ _ hB4)).trans hB4 : w'.cell? ⟨B4, 0, none⟩ = some (.slice A4 k4 c4)))
  clear hB4 y4
  have HV := Lib.hid (fun (w' : World) (h : Ext W4 w') => hV.ext h)
  have HN4 := Lib.hid (fun (w' : World) (h : Ext W4 w') => NatV.below (h4.nat (by have := HL3.out; unfold Fit; omega)) h)
  clear hV h4 nV n4
  have hE0 : Ext W4 (W4.alloc (.cells #[] 28)) := ext_alloc (Below.refl _ _) _
  have hO : OwnF 28 W4.heap.size W4.heap.size (W4.alloc (.cells #[] 28)) (.slice (some ⟨W4.heap.size, 0, none⟩) 0 0) [] (uptoQ (fun d => pchI n D d) 0) := OwnF.empty W4 (Nat.le_refl _)
  go_wp2
  go_loopw [8, 9] (fun ov iv wr => ∃ (k : Nat) (ts : List Fc), k ≤ n + 1 ∧ iv = .int .i64 k ∧ OwnF 28 W4.heap.size W4.heap.size wr ov ts (uptoQ (fun d => pchI n D d) k) ∧ Ext W4 wr)
    (fun _ iv _ => n + 1 - (intOf iv).toNat)
  case atStart => exact ⟨0, [], Nat.zero_le _, rfl, hO, hE0⟩
  case round =>
    clear hO hE0
    obtain ⟨k, ts, hk, rfl, hown, hx⟩ := hrel
    by_cases hkn : k < n + 1
    · have hb1 : (k : Int) < (n : Int) + 1 := by omega
      have hb2 : (0 : Int) ≤ (k : Int) := by omega
      have HU := Lib.hid (uptoQ_length (fun d => pchI n D d) k)
      have HOWN := Lib.hid hown
      clear hown
      obtain ⟨ab, ao, A5, k5, c5, rfl, hb5, hc5, hn5, _⟩ := (HV.out _ hx).pl (k := k) (upto_at (by omega))
      have HS := Lib.hid (fun (w' : World) (h : Ext wr w') => (⟨HB4.out _ (hx.trans h), (h.cell (p := ⟨_, _, none⟩) hb5).trans hc5⟩ : w'.cell? ⟨B4, 0, none⟩ = some (.slice A4 k4 c4) ∧ w'.cell? ⟨_, _, none⟩ = some (.slice A5 k5 c5)))
      have HB1 := Lib.hid (occ_len (n := n) (D := D) (d := k) (by omega) hD)
      have HN5 := Lib.hid (fun (w' : World) (h : Ext wr w') => (CanV.nat hn5 (by unfold Fit; have := HB1.out; omega)).below h)
      clear hn5 hc5 hb5
      go_upto_region 8 with (fail)
      refine wp_region_G (fun w' => Ext wr w') [8, 9] (by kernel_rfl) ?_
      have gS : Ext wr wr.drew := (Below.refl _ _).drew
      refine wpAnyG_take 0 (v := ?_) rfl (by kernel_rfl) (by kernel_rfl) (by kernel_rfl) (by kernel_rfl) (by rfl) (by kernel_rfl) (fun _ _ _ h => h) (by rfl) (fun w' hw' => ?_) gS ?_
      rotate_left
      focus (go_simp; (try with_reducible rfl); done)
      (try simp only [Act.put, List.setIfInBounds_toArray, List.set_cons_zero, List.set_cons_succ])
      refine wpAnyG_take 1 (v := ?_) rfl (by kernel_rfl) (by kernel_rfl) (by kernel_rfl) (by kernel_rfl) (by rfl) (by kernel_rfl) (fun _ _ _ h => h) (by rfl) (fun w' hw' => ?_) gS ?_
      rotate_left
      focus (go_simp; (try with_reducible rfl); done)
      (try simp only [Act.put, List.setIfInBounds_toArray, List.set_cons_zero, List.set_cons_succ])
      refine wpAnyG_take 2 (v := ?_) rfl (by kernel_rfl) (by kernel_rfl) (by kernel_rfl) (by kernel_rfl) (by rfl) (by kernel_rfl) (fun _ _ _ h => h) (by rfl) (fun w' hw' => ?_) gS ?_
      rotate_left
      focus (go_simp; (try with_reducible rfl); done)
      (try simp only [Act.put, List.setIfInBounds_toArray, List.set_cons_zero, List.set_cons_succ])
      refine wpAnyG_take 3 (v := ?_) rfl (by kernel_rfl) (by kernel_rfl) (by kernel_rfl) (by kernel_rfl) (by rfl) (by kernel_rfl) (fun _ _ _ h => h) (by rfl) (fun w' hw' => ?_) gS ?_
      rotate_left
      focus (go_simp; (try with_reducible rfl); done)
      (try simp only [Act.put, List.setIfInBounds_toArray, List.set_cons_zero, List.set_cons_succ])
      refine wpAnyG_take 4 (v := ?_) rfl (by kernel_rfl) (by kernel_rfl) (by kernel_rfl) (by kernel_rfl) (by rfl) (by kernel_rfl) (fun _ _ _ h => h) (by rfl) (fun w' hw' => ?_) gS ?_
      rotate_left
      focus (have hh := HS.out _ hw'; go_split_ands; go_simp; (try with_reducible rfl); done)
      (try simp only [Act.put, List.setIfInBounds_toArray, List.set_cons_zero, List.set_cons_succ])
      refine wpAnyG_take 5 (v := ?_) rfl (by kernel_rfl) (by kernel_rfl) (by kernel_rfl) (by kernel_rfl) (by rfl) (by kernel_rfl) (fun _ _ _ h => h) (by rfl) (fun w' hw' => ?_) gS ?_
      rotate_left
      focus (have hh := HS.out _ hw'; go_split_ands; go_simp; (try with_reducible rfl); done)
      (try simp only [Act.put, List.setIfInBounds_toArray, List.set_cons_zero, List.set_cons_succ])
      refine wpAnyG_one 6 (by kernel_rfl) rfl (by rfl) (fun K hK => ?_)
      go_simp
      go_at_call 57
      refine (rnew_n (b := false) (HN5.out _ gS) (HN4.out _ (hx.trans gS)) (by have := HB1.out; omega) (by have := HL3.out; omega)).mono ?_
      rintro _ w7 ⟨b7, A7, k7, c7, B7, l7, d7, rfl, h7, x7, n7, m7⟩
      have hgs := gS.size
      have gS : Ext wr w7 := Ext.trans gS x7
      have e7 := gS
      rw [pch_fracI] at h7
      (try go_wp2_with fail)
      refine hK.out _ _ (fun _ => gS) ?_
      clear hK K
      (try simp only [Act.put, List.setIfInBounds_toArray, List.set_cons_zero, List.set_cons_succ])
      refine wpAnyG_one 7 (by kernel_rfl) rfl (by rfl) (fun K hK => ?_)
      go_simp
      have gS : Ext wr (w7.alloc (.cells #[.bool b7, .slice A7 k7 c7, .slice B7 l7 d7] 28)) := ext_alloc gS _
      (try go_wp2_with fail)
      refine hK.out _ _ (fun _ => gS) ?_
      clear hK K
      (try simp only [Act.put, List.setIfInBounds_toArray, List.set_cons_zero, List.set_cons_succ])
      refine wpAnyG_one 8 (by kernel_rfl) rfl (by rfl) (fun K hK => ?_)
      refine wp_append_mine _ (.tmp 27) (.tmp 34) 74 (by rfl) W4.heap.size 28 i0 (.agg #[.bool false, .slice none 0 0, .slice none 0 0]) 3 56 Tryz.underlying74 hi hz0 hz1 hz2 rfl (by omega) _ _ _ (by rfl) (HOWN.out.ext (ext_alloc e7 _)).1.1 ⟨w7.heap.size, 0, none⟩ 1 1 [.bool b7, .slice A7 k7 c7, .slice B7 l7 d7] (by rfl) rfl (cell_three w7 _ _ _ _) (by simp [Value.oneCell']) (by rw [HU.out]; unfold maxLen; omega) (by rw [HU.out]; omega) (by have := hx.size; have := e7.size; simp; omega) ?_
      intro v8 w8 ho8 hg8 hw8
      have hO8 : OwnF 28 W4.heap.size W4.heap.size w8 v8 (ts ++ [⟨b7, .slice A7 k7 c7, .slice B7 l7 d7⟩]) (uptoQ (fun d => pchI n D d) (k + 1)) := by
        rw [uptoQ_succ]; exact OwnF.grow (t := ⟨b7, .slice A7 k7 c7, .slice B7 l7 d7⟩) HOWN.out (ext_alloc e7 _) (h7.below (ext_alloc (Below.refl _ _) _)) (n7.mono hgs) (m7.mono hgs) hx.size ho8 hg8 hw8
      have hx8 : Ext W4 w8 := OwnF.grow_ext HOWN.out hx (ext_alloc e7 _) hg8
      clear ho8 hg8 hw8 HOWN h7 x7 n7 m7
      refine hK.out _ _ (fun h => absurd h (by decide)) ?_
      clear hK K
      (try simp only [Act.put, List.setIfInBounds_toArray, List.set_cons_zero, List.set_cons_succ])
      refine wpAnyG_one 9 (by kernel_rfl) rfl (by rfl) (fun K hK => ?_)
      go_simp
      refine hK.out _ _ (fun h => absurd h (by decide)) ?_
      clear hK K
      (try simp only [Act.put, List.setIfInBounds_toArray, List.set_cons_zero, List.set_cons_succ])
      refine wpAnyG_done (by kernel_rfl) ?_ _
      go_wp2
      go_roundw
      case rel => exact ⟨k + 1, _, by omega, by go_num, hO8, hx8⟩
      all_goals (simp [intOf]; omega)
    · obtain rfl : k = n + 1 := by omega
      have hF := hown.fracs
      have hN : New W4.heap.size _ := fun b hb => (hown.1.1.lt b hb).1
      obtain ⟨A9, c9, rfl, _, _⟩ := hF.form
      clear hown
      rw [uptoQ_length] at hF hN ⊢
      have hb1 : ¬ ((n : Int) + 1 < (n : Int) + 1) := by omega
      go_wp2
      refine bodyPost_ret (v := .tuple #[.slice A9 (n + 1) c9, .int .i64 0]) (by simp [results, Tryz.results63, go_sem]) rfl ?_
      have hz := Y4.size
      exact ⟨A9, c9, by rw [uptoQ_length], by rw [uptoQ_length]; exact hF.mono hz, Y4.trans hx, by rw [uptoQ_length]; exact hN.mono hz⟩
theorem rdist_no {n D : Int} {w : World} (h : ¬ OccIn n D) : Calls Tryz.prog 63 #[.int .i64 n, .int .i64 D] w (GivesFLP w [] 2) := by
  go_enter Tryz.func63, Tryz.ntmps63
  go_wp2_with (go_at_call 60; (with_reducible refine (rvalid_f h).mono ?_); rintro e w1 ⟨rfl, rfl⟩)
  refine bodyPost_ret (v := .tuple #[.slice none 0 0, .int .i64 2]) (by simp [results, Tryz.results63, go_sem]) rfl ?_
  exact GivesFLP.none_ (Below.refl _ _)
set_option maxHeartbeats 4000000 in
theorem rchance_ok {n D : Nat} {d : Int} {w : World} (hn : n ≤ 30) (hD1 : 1 ≤ D) (hD : D ≤ 60) :
    Calls Tryz.prog 37 #[.int .i64 n, .int .i64 D, .int .i64 d] w (GivesFE w (pchI n D d)) := by
  by_cases hd : 0 ≤ d ∧ d ≤ n
  · obtain ⟨k, rfl⟩ : ∃ k : Nat, d = k := ⟨d.toNat, by omega⟩
    have hd0 : ¬ ((k : Int) < 0) := by omega
    have hd1 : decide ((k : Int) < 0) = false := decide_eq_false hd0
    have hd2 : ¬ n < k := by omega
    have hd3 : decide (n < k) = false := decide_eq_false hd2
    have hd4 : decide ((n : Int) < (k : Int)) = false := decide_eq_false (by omega)
    have hd5 : (0 : Int) ≤ (k : Int) := by omega
    have hd6 : (k : Int) < (n : Int) + 1 := by omega
    clear hd
    go_enter Tryz.func37, Tryz.ntmps37
    go_upto_region 1 with (fail)
    have hF0 := FBox.new w (.bool false) (.slice none 0 0) (.slice none 0 0) 28
    have x0 : Ext w (w.alloc (.cells #[.bool false, .slice none 0 0, .slice none 0 0] 28)) := ext_alloc (Below.refl _ _) _
    have hs0 : w.heap.size + 1 ≤ (w.alloc (.cells #[.bool false, .slice none 0 0, .slice none 0 0] 28)).heap.size := by simp
    generalize w.alloc (.cells #[.bool false, .slice none 0 0, .slice none 0 0] 28) = W0 at *
    have HF := Lib.hid (fun (w' : World) (h : Ext W0 w') => hF0.below h)
    have HE := Lib.hid x0
    have f0 : Ext W0 W0 := Below.refl _ _
    obtain ⟨r0, r1, r2, g0, g1, g2⟩ := hF0
    clear x0
    go_wp2_with fail
    refine (rdist_ok (n := n) (D := D) hn hD1 hD).mono ?_
    rintro e w1 ⟨A1, c1, rfl, h1, y1, n1⟩
    rw [uptoQ_length] at h1 n1 ⊢
    obtain ⟨b, o, neg, A3, k3, c3, A4, k4, c4, rfl, hb, e0, e1, e2, fv, nv1, nv2⟩ := h1.at_ (k := k) (uptoQ_at (by omega))
    obtain ⟨r0, r1, r2, g0, g1, g2⟩ := HF.out _ y1
    clear h1 n1
    have HFV := Lib.hid fv
    clear fv
    go_wp2
    obtain ⟨q0, q1, q2⟩ := set3 r0 r1 r2 (.bool neg) (.slice A3 k3 c3) (.slice A4 k4 c4)
    refine bodyPost_ret (v := .tuple #[.agg #[.bool neg, .slice A3 k3 c3, .slice A4 k4 c4], .int .i64 0]) (by simp [results, Tryz.results37, go_sem, q0, q1, q2]) rfl ?_
    exact GivesFE.box (HE.out.trans y1) HFV.out (nv1.mono (by omega)) (nv2.mono (by omega)) (Nat.le_refl _)
  · have hz : pchI n D d = 0 := by
      unfold pchI
      by_cases h0 : d < 0
      · rw [if_pos h0]
      · rw [if_neg h0, pch_gt (.inl (by omega))]
    rw [hz]
    have HZ := Lib.hid zero_first
    clear hz
    have hw : d < 0 ∨ (0 ≤ d ∧ (n : Int) < d) := by omega
    rcases hw with h0 | ⟨h0, h1⟩
    · go_enter Tryz.func37, Tryz.ntmps37
      go_upto_region 1 with (fail)
      have hF0 := FBox.new w (.bool false) (.slice none 0 0) (.slice none 0 0) 28
      have x0 : Ext w (w.alloc (.cells #[.bool false, .slice none 0 0, .slice none 0 0] 28)) := ext_alloc (Below.refl _ _) _
      have hs0 : w.heap.size + 1 ≤ (w.alloc (.cells #[.bool false, .slice none 0 0, .slice none 0 0] 28)).heap.size := by simp
      generalize w.alloc (.cells #[.bool false, .slice none 0 0, .slice none 0 0] 28) = W0 at *
      have HF := Lib.hid (fun (w' : World) (h : Ext W0 w') => hF0.below h)
      have HE := Lib.hid x0
      have f0 : Ext W0 W0 := Below.refl _ _
      obtain ⟨r0, r1, r2, g0, g1, g2⟩ := hF0
      clear x0
      go_wp2_with fail
      refine (rdist_ok (n := n) (D := D) hn hD1 hD).mono ?_
      rintro e w1 ⟨A1, c1, rfl, h1, y1, n1⟩
      rw [uptoQ_length] at h1 n1 ⊢
      clear h1 n1
      go_wp2_with (go_at_call 33; (with_reducible refine (rfof_n (n := 0) (d := 1) (by omega) (by omega)).mono ?_); rintro e s3 ⟨b3, A3, k3, c3, B3, l3, d3, rfl, h3, z3, n3, m3⟩; obtain ⟨r0, r1, r2, g0, g1, g2⟩ := HF.out _ (y1.trans z3))
      obtain ⟨q0, q1, q2⟩ := set3 r0 r1 r2 (.bool b3) (.slice A3 k3 c3) (.slice B3 l3 d3)
      refine bodyPost_ret (v := .tuple #[.agg #[.bool b3, .slice A3 k3 c3, .slice B3 l3 d3], .int .i64 0]) (by simp [results, Tryz.results37, go_sem, q0, q1, q2]) rfl ?_
      exact GivesFE.box (HE.out.trans (y1.trans z3)) (by rw [← HZ.out]; exact h3) (n3.mono (by have := y1.size; omega)) (m3.mono (by have := y1.size; omega)) (Nat.le_refl _)
    · have hd0 : ¬ (d < 0) := by omega
      have hd1 : decide (d < 0) = false := decide_eq_false hd0
      go_enter Tryz.func37, Tryz.ntmps37
      go_upto_region 1 with (fail)
      have hF0 := FBox.new w (.bool false) (.slice none 0 0) (.slice none 0 0) 28
      have x0 : Ext w (w.alloc (.cells #[.bool false, .slice none 0 0, .slice none 0 0] 28)) := ext_alloc (Below.refl _ _) _
      have hs0 : w.heap.size + 1 ≤ (w.alloc (.cells #[.bool false, .slice none 0 0, .slice none 0 0] 28)).heap.size := by simp
      generalize w.alloc (.cells #[.bool false, .slice none 0 0, .slice none 0 0] 28) = W0 at *
      have HF := Lib.hid (fun (w' : World) (h : Ext W0 w') => hF0.below h)
      have HE := Lib.hid x0
      have f0 : Ext W0 W0 := Below.refl _ _
      obtain ⟨r0, r1, r2, g0, g1, g2⟩ := hF0
      clear x0
      go_wp2_with fail
      refine (rdist_ok (n := n) (D := D) hn hD1 hD).mono ?_
      rintro e w1 ⟨A1, c1, rfl, h1, y1, n1⟩
      rw [uptoQ_length] at h1 n1 ⊢
      clear h1 n1
      go_wp2_with (go_at_call 33; (with_reducible refine (rfof_n (n := 0) (d := 1) (by omega) (by omega)).mono ?_); rintro e s3 ⟨b3, A3, k3, c3, B3, l3, d3, rfl, h3, z3, n3, m3⟩; obtain ⟨r0, r1, r2, g0, g1, g2⟩ := HF.out _ (y1.trans z3))
      obtain ⟨q0, q1, q2⟩ := set3 r0 r1 r2 (.bool b3) (.slice A3 k3 c3) (.slice B3 l3 d3)
      refine bodyPost_ret (v := .tuple #[.agg #[.bool b3, .slice A3 k3 c3, .slice B3 l3 d3], .int .i64 0]) (by simp [results, Tryz.results37, go_sem, q0, q1, q2]) rfl ?_
      exact GivesFE.box (HE.out.trans (y1.trans z3)) (by rw [← HZ.out]; exact h3) (n3.mono (by have := y1.size; omega)) (m3.mono (by have := y1.size; omega)) (Nat.le_refl _)
set_option maxHeartbeats 2000000 in
theorem rchance_no {n D d : Int} {w : World} (h : ¬ OccIn n D) : Calls Tryz.prog 37 #[.int .i64 n, .int .i64 D, .int .i64 d] w (GivesFN w 2) := by
  go_enter Tryz.func37, Tryz.ntmps37
  go_upto_region 1 with (fail)
  have hF0 := FBox.new w (.bool false) (.slice none 0 0) (.slice none 0 0) 28
  have x0 : Ext w (w.alloc (.cells #[.bool false, .slice none 0 0, .slice none 0 0] 28)) := ext_alloc (Below.refl _ _) _
  have hs0 : w.heap.size + 1 ≤ (w.alloc (.cells #[.bool false, .slice none 0 0, .slice none 0 0] 28)).heap.size := by simp
  generalize w.alloc (.cells #[.bool false, .slice none 0 0, .slice none 0 0] 28) = W0 at *
  have HF := Lib.hid (fun (w' : World) (h : Ext W0 w') => hF0.below h)
  have HE := Lib.hid x0
  have f0 : Ext W0 W0 := Below.refl _ _
  obtain ⟨r0, r1, r2, g0, g1, g2⟩ := hF0
  clear x0
  go_wp2_with (go_at_call 63; (with_reducible refine (rdist_no h).mono ?_); rintro e w1 ⟨A1, c1, rfl, h1, y1, n1⟩; obtain ⟨r0, r1, r2, g0, g1, g2⟩ := HF.out _ y1)
  obtain ⟨q0, q1, q2⟩ := set3 r0 r1 r2 (.bool false) (.slice none 0 0) (.slice none 0 0)
  refine bodyPost_ret (v := .tuple #[.agg #[.bool false, .slice none 0 0, .slice none 0 0], .int .i64 2]) (by simp [results, Tryz.results37, go_sem, q0, q1, q2]) rfl ?_
  exact ⟨rfl, ext_put (HE.out.trans y1) (Nat.le_refl _) _ _ _⟩

end Go.Proofs.YtjdpkmngboiemaaGreatDoor
