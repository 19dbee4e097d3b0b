/- The reference's tail, Valid, AtMost, AtLeast. occupancy: Distribution. The reference's Distribution and Chance. -/
import Derived.Test.YtnedgbebajhcpaaGreatDoorOcR
import Derived.Test.YtnedgbebajhcpaaGreatDoorOcV
import Derived.Test.YtnedgbebajhcpaaGreatDoorRIn
import Derived.Test.YtnedgbebajhcpaaGreatDoorOcA
import Derived.Test.YtnedgbebajhcpaaGreatDoorFrlA
import Derived.Test.YtnedgbebajhcpaaGreatDoorFrlS
set_option linter.unusedVariables false
set_option linter.unusedSimpArgs false
set_option maxRecDepth 100000
namespace Go.Proofs.YtnedgbebajhcpaaGreatDoor
open Go.RowKit Num

def tailF (n D : Nat) (low high : Int) (i : Nat) : Nat := if low ≤ (i : Int) ∧ (i : Int) ≤ high then occ n D i else 0
theorem tailF_le (n D : Nat) (low high : Int) (i : Nat) : tailF n D low high i ≤ occ n D i := by unfold tailF; split <;> omega
theorem sumTo_le {f g : Nat → Nat} {n : Nat} (h : ∀ k, k < n → f k ≤ g k) : sumTo f n ≤ sumTo g n := by
  induction n with
  | zero => exact Nat.le_refl _
  | succ n ih => rw [sumTo_succ, sumTo_succ]; exact Nat.add_le_add (ih fun k hk => h k (by omega)) (h n (by omega))
theorem tail_len {n D k : Nat} {low high : Int} (hn : n ≤ 30) (hD : D ≤ 60) (hk : k ≤ n + 1) : (limbsOf (sumTo (tailF n D low high) k)).length ≤ 32 := by
  have h1 : sumTo (tailF n D low high) k ≤ D ^ n := by
    rw [← occ_sum n D]
    exact Nat.le_trans (sumTo_le fun j _ => tailF_le n D low high j) (sumTo_mono hk)
  have h2 := limbsOf_length_mono h1
  have h3 := all_small hn hD
  omega

theorem rvalid_t {n D : Int} {w : World} (h1 : 0 ≤ n ∧ n ≤ 30) (h2 : 1 ≤ D ∧ D ≤ 60) : Calls Tryz.prog 22 #[.int .i64 n, .int .i64 D] w (fun e w' => e = .returned (.bool true) ∧ w' = w) := by
  go_enter Tryz.func22, Tryz.ntmps22
  go_wp2_with (go_at_call 23; (with_reducible refine (rin_t (by omega) (by omega)).mono ?_); rintro e w1 ⟨rfl, rfl⟩)
  go_ret
  exact ⟨rfl, rfl⟩
theorem rvalid_f {n D : Int} {w : World} (h : ¬ OccIn n D) : Calls Tryz.prog 22 #[.int .i64 n, .int .i64 D] w (fun e w' => e = .returned (.bool false) ∧ w' = w) := by
  unfold OccIn at h
  by_cases hn : 0 ≤ n ∧ n ≤ 30
  · have hD : D < 1 ∨ 60 < D := by omega
    go_enter Tryz.func22, Tryz.ntmps22
    go_wp2_with (first
      | (go_at_call 23; (with_reducible refine (rin_t (n := n) (by omega) (by omega)).mono ?_); rintro e w1 ⟨rfl, rfl⟩)
      | (go_at_call 23; (with_reducible refine (rin_f (n := D) (by omega)).mono ?_); rintro e w1 ⟨rfl, rfl⟩))
    go_ret
    exact ⟨rfl, rfl⟩
  · have hD : n < 0 ∨ 30 < n := by omega
    go_enter Tryz.func22, Tryz.ntmps22
    go_wp2_with (go_at_call 23; (with_reducible refine (rin_f (n := n) (by omega)).mono ?_); rintro e w1 ⟨rfl, rfl⟩)
    go_ret
    exact ⟨rfl, rfl⟩

end Go.Proofs.YtnedgbebajhcpaaGreatDoor
namespace Go.Proofs.YtnedgbebajhcpaaGreatDoor
open Go.RowKit Num

end Go.Proofs.YtnedgbebajhcpaaGreatDoor
namespace Go.Proofs.YtnedgbebajhcpaaGreatDoor
open Go.RowKit Num

theorem OwnF.empty {e : TypeId} {base B : Nat} (w : World) (hb : base ≤ w.heap.size) : OwnF e base B (w.alloc (.cells #[] e)) (.slice (some ⟨w.heap.size, 0, none⟩) 0 0) [] [] := by
  refine ⟨⟨?_, rfl⟩, by simp⟩
  have := World.ownsRow_lit (base := base) (e := e) (size := 3) w #[] 0 hb (by unfold maxLen; omega) rfl
  simpa [fcells] using this
theorem FracsV.mono {B B' : Nat} {w : World} {v : Value} {qs : List Rat} (h : FracsV B w v qs) (hB : B' ≤ B) : FracsV B' w v qs := by
  obtain ⟨A, cap, ts, h1, h2, h3, h4, h5, h6⟩ := h
  exact ⟨A, cap, ts, h1, h2, h3, h4, h5, fun k t q hu hm => ⟨(h6 k t q hu hm).1, (h6 k t q hu hm).2.1.mono hB, (h6 k t q hu hm).2.2.mono hB⟩⟩
theorem pch_fracI (n D k : Nat) : frac false (occ n D k) (D ^ n) = pchI n D (k : Int) := by
  unfold pchI
  rw [if_neg (by omega), Int.toNat_natCast, frac_false]
  rfl
/-- A list of fractions and an error number. -/
def GivesFLP (w : World) (qs : List Rat) (er : Int) (e : Ending) (w' : World) : Prop := ∃ A c, e = .returned (.tuple #[.slice A qs.length c, .int .i64 er]) ∧ FracsV w.heap.size w' (.slice A qs.length c) qs ∧ Ext w w' ∧ New w.heap.size (.slice A qs.length c)
theorem GivesFL.p {w w' : World} {qs : List Rat} {e : Ending} (h : GivesFL w qs e w') : GivesFLP w qs 0 e w' := h
theorem GivesFLP.none_ {w w' : World} {er : Int} (h : Ext w w') : GivesFLP w [] er (.returned (.tuple #[.slice none 0 0, .int .i64 er])) w' := ⟨none, 0, rfl, FracsV.nil_ _ _, h, New.nil_ _⟩

set_option maxHeartbeats 8000000 in
theorem rdist_ok {n D : Nat} {w : World} (hn : n ≤ 30) (hD1 : 1 ≤ D) (hD : D ≤ 60) :
    Calls Tryz.prog 48 #[.int .i64 n, .int .i64 D] w (GivesFL w (uptoQ (fun d => pchI n D d) (n + 1))) := by
  obtain ⟨i0, hi, hz0, hz1, hz2⟩ := info_parts info_frac
  have HL3 := Lib.hid (all_small hn hD)
  go_enter Tryz.func48, Tryz.ntmps48
  go_wp2_with (go_at_call 22; (with_reducible refine (rvalid_t (n := (n : Int)) (D := (D : Int)) (by omega) (by omega)).mono ?_); rintro e w1 ⟨rfl, rfl⟩)
  go_wp2_with fail
  refine (rways_n (n := n) (D := D) hn hD1 hD).mono ?_
  rintro e w4 ⟨A, c, A4, k4, c4, rfl, hV, h4, y4, nV, n4⟩
  rw [upto_length] at hV nV ⊢
  obtain ⟨_, _, e0, hcap1, hcap2⟩ := hV.form
  rw [upto_length] at e0 hcap1
  injection e0 with e1 e2 e3
  subst e1 e3
  clear e2
  obtain ⟨w0, hw0⟩ : ∃ w0, w0 = w1 := ⟨_, rfl⟩
  subst hw0
  go_upto_region 4 with (fail)
  have hB4 : (w4.alloc (.cells #[.slice A4 k4 c4] 25)).cell? ⟨w4.heap.size, 0, none⟩ = some (.slice A4 k4 c4) := by simp [go_sem]
  have Y4 : Ext w0 (w4.alloc (.cells #[.slice A4 k4 c4] 25)) := ext_alloc y4 _
  have h4 := h4.below (ext_alloc (Below.refl _ _) (.cells #[.slice A4 k4 c4] 25))
  have hV := hV.below (ext_alloc (Below.refl _ _) (.cells #[.slice A4 k4 c4] 25))
  have hsz4 : w4.heap.size < (w4.alloc (.cells #[.slice A4 k4 c4] 25)).heap.size := by simp
  have hlo4 : w0.heap.size ≤ w4.heap.size := y4.size
  generalize w4.alloc (.cells #[.slice A4 k4 c4] 25) = W4 at *
  generalize w4.heap.size = B4 at *
  have HB4 := Lib.hid (fun (w' : World) (h : Ext W4 w') => ((h.cell (p := ⟨B4, 0, none⟩) (World.block_lt_of_cell? _ _ hB4)).trans hB4 : w'.cell? ⟨B4, 0, none⟩ = some (.slice A4 k4 c4)))
  clear hB4 y4
  have HV := Lib.hid (fun (w' : World) (h : Ext W4 w') => hV.ext h)
  have HN4 := Lib.hid (fun (w' : World) (h : Ext W4 w') => NatV.below (h4.nat (by have := HL3.out; unfold Fit; omega)) h)
  clear hV h4 nV n4
  have hE0 : Ext W4 (W4.alloc (.cells #[] 27)) := ext_alloc (Below.refl _ _) _
  have hO : OwnF 27 W4.heap.size W4.heap.size (W4.alloc (.cells #[] 27)) (.slice (some ⟨W4.heap.size, 0, none⟩) 0 0) [] (uptoQ (fun d => pchI n D d) 0) := OwnF.empty W4 (Nat.le_refl _)
  go_wp2
  go_loopw [8, 9] (fun ov iv wr => ∃ (k : Nat) (ts : List Fc), k ≤ n + 1 ∧ iv = .int .i64 k ∧ OwnF 27 W4.heap.size W4.heap.size wr ov ts (uptoQ (fun d => pchI n D d) k) ∧ Ext W4 wr)
    (fun _ iv _ => n + 1 - (intOf iv).toNat)
  case atStart => exact ⟨0, [], Nat.zero_le _, rfl, hO, hE0⟩
  case round =>
    clear hO hE0
    obtain ⟨k, ts, hk, rfl, hown, hx⟩ := hrel
    by_cases hkn : k < n + 1
    · have hb1 : (k : Int) < (n : Int) + 1 := by omega
      have hb2 : (0 : Int) ≤ (k : Int) := by omega
      have HU := Lib.hid (uptoQ_length (fun d => pchI n D d) k)
      have HOWN := Lib.hid hown
      clear hown
      obtain ⟨ab, ao, A5, k5, c5, rfl, hb5, hc5, hn5, _⟩ := (HV.out _ hx).pl (k := k) (upto_at (by omega))
      have HS := Lib.hid (fun (w' : World) (h : Ext wr w') => (⟨HB4.out _ (hx.trans h), (h.cell (p := ⟨_, _, none⟩) hb5).trans hc5⟩ : w'.cell? ⟨B4, 0, none⟩ = some (.slice A4 k4 c4) ∧ w'.cell? ⟨_, _, none⟩ = some (.slice A5 k5 c5)))
      have HB1 := Lib.hid (occ_len (n := n) (D := D) (d := k) (by omega) hD)
      have HN5 := Lib.hid (fun (w' : World) (h : Ext wr w') => (CanV.nat hn5 (by unfold Fit; have := HB1.out; omega)).below h)
      clear hn5 hc5 hb5
      go_upto_region 8 with (fail)
      refine wp_region_G (fun w' => Ext wr w') [8, 9] (by kernel_rfl) ?_
      have gS : Ext wr wr.drew := (Below.refl _ _).drew
      refine wpAnyG_take 0 (v := ?_) rfl (by kernel_rfl) (by kernel_rfl) (by kernel_rfl) (by kernel_rfl) (by rfl) (by kernel_rfl) (fun _ _ _ h => h) (by rfl) (fun w' hw' => ?_) gS ?_
      rotate_left
      focus (go_simp; (try with_reducible rfl); done)
      (try simp only [Act.put, List.getElem_toArray, List.getElem_cons_succ, List.getElem_cons_zero, List.setIfInBounds_toArray, List.set_cons_zero, List.set_cons_succ])
      refine wpAnyG_take 1 (v := ?_) rfl (by kernel_rfl) (by kernel_rfl) (by kernel_rfl) (by kernel_rfl) (by rfl) (by kernel_rfl) (fun _ _ _ h => h) (by rfl) (fun w' hw' => ?_) gS ?_
      rotate_left
      focus (go_simp; (try with_reducible rfl); done)
      (try simp only [Act.put, List.getElem_toArray, List.getElem_cons_succ, List.getElem_cons_zero, List.setIfInBounds_toArray, List.set_cons_zero, List.set_cons_succ])
      refine wpAnyG_take 2 (v := ?_) rfl (by kernel_rfl) (by kernel_rfl) (by kernel_rfl) (by kernel_rfl) (by rfl) (by kernel_rfl) (fun _ _ _ h => h) (by rfl) (fun w' hw' => ?_) gS ?_
      rotate_left
      focus (go_simp; (try with_reducible rfl); done)
      (try simp only [Act.put, List.getElem_toArray, List.getElem_cons_succ, List.getElem_cons_zero, List.setIfInBounds_toArray, List.set_cons_zero, List.set_cons_succ])
      refine wpAnyG_take 3 (v := ?_) rfl (by kernel_rfl) (by kernel_rfl) (by kernel_rfl) (by kernel_rfl) (by rfl) (by kernel_rfl) (fun _ _ _ h => h) (by rfl) (fun w' hw' => ?_) gS ?_
      rotate_left
      focus (go_simp; (try with_reducible rfl); done)
      (try simp only [Act.put, List.getElem_toArray, List.getElem_cons_succ, List.getElem_cons_zero, List.setIfInBounds_toArray, List.set_cons_zero, List.set_cons_succ])
      refine wpAnyG_take 4 (v := ?_) rfl (by kernel_rfl) (by kernel_rfl) (by kernel_rfl) (by kernel_rfl) (by rfl) (by kernel_rfl) (fun _ _ _ h => h) (by rfl) (fun w' hw' => ?_) gS ?_
      rotate_left
      focus (have hh := HS.out _ hw'; go_split_ands; go_simp; (try with_reducible rfl); done)
      (try simp only [Act.put, List.getElem_toArray, List.getElem_cons_succ, List.getElem_cons_zero, List.setIfInBounds_toArray, List.set_cons_zero, List.set_cons_succ])
      refine wpAnyG_take 5 (v := ?_) rfl (by kernel_rfl) (by kernel_rfl) (by kernel_rfl) (by kernel_rfl) (by rfl) (by kernel_rfl) (fun _ _ _ h => h) (by rfl) (fun w' hw' => ?_) gS ?_
      rotate_left
      focus (have hh := HS.out _ hw'; go_split_ands; go_simp; (try with_reducible rfl); done)
      (try simp only [Act.put, List.getElem_toArray, List.getElem_cons_succ, List.getElem_cons_zero, List.setIfInBounds_toArray, List.set_cons_zero, List.set_cons_succ])
      refine wpAnyG_one 6 (by kernel_rfl) rfl (by rfl) (fun K hK => ?_)
      go_simp
      go_at_call 56
      refine (rnew_n (b := false) (HN5.out _ gS) (HN4.out _ (hx.trans gS)) (by have := HB1.out; omega) (by have := HL3.out; omega)).mono ?_
      rintro _ w7 ⟨b7, A7, k7, c7, B7, l7, d7, rfl, h7, x7, n7, m7⟩
      have hgs := gS.size
      have gS : Ext wr w7 := Ext.trans gS x7
      have e7 := gS
      rw [pch_fracI] at h7
      (try go_wp2_with fail)
      refine hK.out _ _ (fun _ => gS) ?_
      clear hK K
      (try simp only [Act.put, List.getElem_toArray, List.getElem_cons_succ, List.getElem_cons_zero, List.setIfInBounds_toArray, List.set_cons_zero, List.set_cons_succ])
      refine wpAnyG_one 7 (by kernel_rfl) rfl (by rfl) (fun K hK => ?_)
      go_simp
      have gS : Ext wr (w7.alloc (.cells #[.bool b7, .slice A7 k7 c7, .slice B7 l7 d7] 27)) := ext_alloc gS _
      (try go_wp2_with fail)
      refine hK.out _ _ (fun _ => gS) ?_
      clear hK K
      (try simp only [Act.put, List.getElem_toArray, List.getElem_cons_succ, List.getElem_cons_zero, List.setIfInBounds_toArray, List.set_cons_zero, List.set_cons_succ])
      refine wpAnyG_one 8 (by kernel_rfl) rfl (by rfl) (fun K hK => ?_)
      refine wp_append_mine _ (.tmp 27) (.tmp 34) 55 (by rfl) W4.heap.size 27 i0 (.agg #[.bool false, .slice none 0 0, .slice none 0 0]) 3 56 Tryz.underlying55 hi hz0 hz1 hz2 rfl (by omega) _ _ _ (by rfl) (HOWN.out.ext (ext_alloc e7 _)).1.1 ⟨w7.heap.size, 0, none⟩ 1 1 [.bool b7, .slice A7 k7 c7, .slice B7 l7 d7] (by rfl) rfl (cell_three w7 _ _ _ _) (by simp [Value.oneCell']) (by rw [HU.out]; unfold maxLen; omega) (by rw [HU.out]; omega) (by have := hx.size; have := e7.size; simp; omega) ?_
      intro v8 w8 ho8 hg8 hw8
      have hO8 : OwnF 27 W4.heap.size W4.heap.size w8 v8 (ts ++ [⟨b7, .slice A7 k7 c7, .slice B7 l7 d7⟩]) (uptoQ (fun d => pchI n D d) (k + 1)) := by
        rw [uptoQ_succ]; exact OwnF.grow (t := ⟨b7, .slice A7 k7 c7, .slice B7 l7 d7⟩) HOWN.out (ext_alloc e7 _) (h7.below (ext_alloc (Below.refl _ _) _)) (n7.mono hgs) (m7.mono hgs) hx.size ho8 hg8 hw8
      have hx8 : Ext W4 w8 := OwnF.grow_ext HOWN.out hx (ext_alloc e7 _) hg8
      clear ho8 hg8 hw8 HOWN h7 x7 n7 m7
      refine hK.out _ _ (fun h => absurd h (by decide)) ?_
      clear hK K
      (try simp only [Act.put, List.getElem_toArray, List.getElem_cons_succ, List.getElem_cons_zero, List.setIfInBounds_toArray, List.set_cons_zero, List.set_cons_succ])
      refine wpAnyG_one 9 (by kernel_rfl) rfl (by rfl) (fun K hK => ?_)
      (try simp only [List.getElem_toArray, List.getElem_cons_succ, List.getElem_cons_zero])
      go_simp
      refine hK.out _ _ (fun h => absurd h (by decide)) ?_
      clear hK K
      (try simp only [Act.put, List.getElem_toArray, List.getElem_cons_succ, List.getElem_cons_zero, List.setIfInBounds_toArray, List.set_cons_zero, List.set_cons_succ])
      refine wpAnyG_done (by kernel_rfl) ?_ _
      go_wp2
      go_roundw
      case rel => exact ⟨k + 1, _, by omega, by go_num, hO8, hx8⟩
      all_goals (simp [intOf]; omega)
    · obtain rfl : k = n + 1 := by omega
      have hF := hown.fracs
      have hN : New W4.heap.size _ := fun b hb => (hown.1.1.lt b hb).1
      obtain ⟨A9, c9, rfl, _, _⟩ := hF.form
      clear hown
      rw [uptoQ_length] at hF hN ⊢
      have hb1 : ¬ ((n : Int) + 1 < (n : Int) + 1) := by omega
      go_wp2
      refine bodyPost_ret (v := .tuple #[.slice A9 (n + 1) c9, .int .i64 0]) (by simp [results, Tryz.results48, go_sem]) rfl ?_
      have hz := Y4.size
      exact ⟨A9, c9, by rw [uptoQ_length], by rw [uptoQ_length]; exact hF.mono hz, Y4.trans hx, by rw [uptoQ_length]; exact hN.mono hz⟩
theorem rdist_no {n D : Int} {w : World} (h : ¬ OccIn n D) : Calls Tryz.prog 48 #[.int .i64 n, .int .i64 D] w (GivesFLP w [] 2) := by
  go_enter Tryz.func48, Tryz.ntmps48
  go_wp2_with (go_at_call 22; (with_reducible refine (rvalid_f h).mono ?_); rintro e w1 ⟨rfl, rfl⟩)
  refine bodyPost_ret (v := .tuple #[.slice none 0 0, .int .i64 2]) (by simp [results, Tryz.results48, go_sem]) rfl ?_
  exact GivesFLP.none_ (Below.refl _ _)
end Go.Proofs.YtnedgbebajhcpaaGreatDoor
