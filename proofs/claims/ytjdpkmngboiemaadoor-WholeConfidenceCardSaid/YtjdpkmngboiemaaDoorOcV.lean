/- occupancy: AtMost, AtLeast. -/
import Derived.Test.YtjdpkmngboiemaaDoorOcU
set_option linter.unusedVariables false
set_option linter.unusedSimpArgs false
set_option maxRecDepth 100000
namespace Go.Proofs.YtjdpkmngboiemaaDoor
open Go.RowKit Num

theorem NatsV.below {B : Nat} {w w' : World} {v : Value} {ns : List Nat} (h : NatsV B w v ns) (hE : Ext w w') : NatsV B w' v ns := h.ext hE
/-- So many of the first places count. -/
def mostN (n : Nat) (d : Int) : Nat := min (d + 1).toNat (n + 1)
def mostQ (n D : Nat) (d : Int) : Rat := frac false (sumTo (occ n D) (mostN n d)) (D ^ n)
def leastQ (n D : Nat) (d : Int) : Rat := frac false (D ^ n - sumTo (occ n D) (min d.toNat (n + 1))) (D ^ n)
theorem occ_mem_len {n D : Nat} (hn : n ≤ 30) (hD : D ≤ 60) : ∀ x ∈ upto_ (occ n D) (n + 1), (limbsOf x).length ≤ 32 := by
  intro x hx
  obtain ⟨k, _, rfl⟩ := List.mem_map.1 hx
  exact occ_len (by omega) hD

set_option maxHeartbeats 4000000 in
theorem oatmost_ok {n D : Nat} {d : Int} {w : World} (hn : n ≤ 30) (hD1 : 1 ≤ D) (hD : D ≤ 60) (hd : -9223372036854775808 ≤ d ∧ d ≤ 9223372036854775807) (ht : Tab10 w) :
    Calls Tryd.prog 57 #[.int .i64 n, .int .i64 D, .int .i64 d] w (GivesFE w (mostQ n D d)) := by
  obtain ⟨kk, hkk⟩ : ∃ kk, kk = mostN n d := ⟨_, rfl⟩
  have hmx : min (max d (-1)) (n : Int) = (kk : Int) - 1 := by unfold mostN at hkk; omega
  have hkn : kk ≤ n + 1 := by unfold mostN at hkk; omega
  have hw1 : IntKind.i64.wrap ((kk : Int) - 1 + 1) = (kk : Int) := by rw [wrap_in (by omega)]; omega
  have hw2 : IntKind.i64.wrap (kk : Int) = (kk : Int) := wrap_in (by omega)
  unfold mostQ
  rw [← hkk]
  have HQ := Lib.hid (sum_upto (occ n D) (n + 1) kk hkn)
  clear hkk
  have HT := Lib.hid (fun (w' : World) (h : Ext w w') => ht.ext h)
  have HL3 := Lib.hid (all_small hn hD)
  have HOL := Lib.hid (occ_mem_len hn hD)
  have hk0 : (0 : Int) ≤ (kk : Int) := by omega
  have hkn' : (kk : Int) ≤ (n : Int) + 1 := by omega
  clear ht hd
  go_enter Tryd.func57, Tryd.ntmps57
  go_upto_region 1 with (fail)
  have hB0 := FBox.new w (.bool false) (.slice none 0 0) (.slice none 0 0) 27
  have x0 : Ext w (w.alloc (.cells #[.bool false, .slice none 0 0, .slice none 0 0] 27)) := ext_alloc (Below.refl _ _) _
  have hs0 : w.heap.size + 1 ≤ (w.alloc (.cells #[.bool false, .slice none 0 0, .slice none 0 0] 27)).heap.size := by simp
  generalize (w.alloc (.cells #[.bool false, .slice none 0 0, .slice none 0 0] 27)) = W0 at *
  have HF := Lib.hid (fun (w' : World) (h : Ext W0 w') => hB0.below h)
  obtain ⟨r0, r1, r2, g0, g1, g2⟩ := hB0
  have HE := Lib.hid x0
  clear x0
  have f0 : Ext W0 W0 := Below.refl _ _
  go_wp2_with (go_at_call 36; (with_reducible refine (ocheck_ok (n := (n : Int)) (D := (D : Int)) (by omega) (by omega)).mono ?_); rintro e w1 ⟨rfl, rfl⟩)
  go_wp2_with fail
  refine (oways_n (n := n) (D := D) hn hD1 hD (HT.out _ HE.out)).mono ?_
  rintro e w4 ⟨A, c, A4, k4, c4, rfl, hV, h4, y4, nV, n4⟩
  rw [upto_length] at hV nV ⊢
  obtain ⟨_, _, e0, hcap1, hcap2⟩ := hV.form
  rw [upto_length] at e0 hcap1
  injection e0 with e1 e2 e3
  subst e1 e3
  clear e2
  go_upto_region 5 with (fail)
  have hB4 : (w4.alloc (.cells #[.slice A4 k4 c4] 25)).cell? ⟨w4.heap.size, 0, none⟩ = some (.slice A4 k4 c4) := by simp [go_sem]
  have Y4 : Ext w1 (w4.alloc (.cells #[.slice A4 k4 c4] 25)) := ext_alloc y4 _
  have h4 := h4.below (ext_alloc (Below.refl _ _) (.cells #[.slice A4 k4 c4] 25))
  have hV := hV.below (ext_alloc (Below.refl _ _) (.cells #[.slice A4 k4 c4] 25))
  have hsz4 : w4.heap.size < (w4.alloc (.cells #[.slice A4 k4 c4] 25)).heap.size := by simp
  have hlo4 : w1.heap.size ≤ w4.heap.size := y4.size
  generalize w4.alloc (.cells #[.slice A4 k4 c4] 25) = W4 at *
  generalize w4.heap.size = B4 at *
  have HB4 := Lib.hid (fun (w' : World) (h : Ext W4 w') => ((h.cell (p := ⟨B4, 0, none⟩) (World.block_lt_of_cell? _ _ hB4)).trans hB4 : w'.cell? ⟨B4, 0, none⟩ = some (.slice A4 k4 c4)))
  clear hB4 y4
  have HV := Lib.hid (fun (w' : World) (h : Ext W4 w') => hV.ext h)
  have HN4 := Lib.hid (h4.nat (by have := HL3.out; unfold Fit; omega))
  have HS := Lib.hid (fun w' (h : Ext W4 w') => HB4.out w' h)
  have hcap3 : (n : Int) + 1 ≤ (c : Int) := by omega
  clear hV h4
  have hcc : (kk : Int) ≤ (c : Int) := by omega
  obtain ⟨r0, r1, r2, g0, g1, g2⟩ := HF.out _ Y4
  refine wp_region_G (fun w' => Ext W4 w') [9, 10] (by kernel_rfl) ?_
  have gS : Ext W4 W4.drew := (Below.refl _ _).drew
  refine wpAnyG_take 0 (v := ?_) rfl (by kernel_rfl) (by kernel_rfl) (by kernel_rfl) (by kernel_rfl) (by rfl) (by kernel_rfl) (fun _ _ _ h => h) (by rfl) (fun w' hw' => ?_) gS ?_
  rotate_left
  focus (go_simp; (try with_reducible rfl); done)
  (try simp only [Act.put, List.setIfInBounds_toArray, List.set_cons_zero, List.set_cons_succ])
  refine wpAnyG_take 1 (v := ?_) rfl (by kernel_rfl) (by kernel_rfl) (by kernel_rfl) (by kernel_rfl) (by rfl) (by kernel_rfl) (fun _ _ _ h => h) (by rfl) (fun w' hw' => ?_) gS ?_
  rotate_left
  focus (go_simp; (try with_reducible rfl); done)
  (try simp only [Act.put, List.setIfInBounds_toArray, List.set_cons_zero, List.set_cons_succ])
  refine wpAnyG_take 2 (v := ?_) rfl (by kernel_rfl) (by kernel_rfl) (by kernel_rfl) (by kernel_rfl) (by rfl) (by kernel_rfl) (fun _ _ _ h => h) (by rfl) (fun w' hw' => ?_) gS ?_
  rotate_left
  focus (go_simp; (try with_reducible rfl); done)
  (try simp only [Act.put, List.setIfInBounds_toArray, List.set_cons_zero, List.set_cons_succ])
  refine wpAnyG_take 3 (v := ?_) rfl (by kernel_rfl) (by kernel_rfl) (by kernel_rfl) (by kernel_rfl) (by rfl) (by kernel_rfl) (fun _ _ _ h => h) (by rfl) (fun w' hw' => ?_) gS ?_
  rotate_left
  focus (go_simp; (try with_reducible rfl); done)
  (try simp only [Act.put, List.setIfInBounds_toArray, List.set_cons_zero, List.set_cons_succ])
  refine wpAnyG_take 4 (v := ?_) rfl (by kernel_rfl) (by kernel_rfl) (by kernel_rfl) (by kernel_rfl) (by rfl) (by kernel_rfl) (fun _ _ _ h => h) (by rfl) (fun w' hw' => ?_) gS ?_
  rotate_left
  focus (go_simp; (try with_reducible rfl); done)
  (try simp only [Act.put, List.setIfInBounds_toArray, List.set_cons_zero, List.set_cons_succ])
  refine wpAnyG_take 5 (v := ?_) rfl (by kernel_rfl) (by kernel_rfl) (by kernel_rfl) (by kernel_rfl) (by rfl) (by kernel_rfl) (fun _ _ _ h => h) (by rfl) (fun w' hw' => ?_) gS ?_
  rotate_left
  focus (go_simp; (try with_reducible rfl); done)
  (try simp only [Act.put, List.setIfInBounds_toArray, List.set_cons_zero, List.set_cons_succ])
  refine wpAnyG_take 6 (v := ?_) rfl (by kernel_rfl) (by kernel_rfl) (by kernel_rfl) (by kernel_rfl) (by rfl) (by kernel_rfl) (fun _ _ _ h => h) (by rfl) (fun w' hw' => ?_) gS ?_
  rotate_left
  focus (go_simp; (try with_reducible rfl); done)
  (try simp only [Act.put, List.setIfInBounds_toArray, List.set_cons_zero, List.set_cons_succ])
  refine wpAnyG_take 7 (v := ?_) rfl (by kernel_rfl) (by kernel_rfl) (by kernel_rfl) (by kernel_rfl) (by rfl) (by kernel_rfl) (fun _ _ _ h => h) (by rfl) (fun w' hw' => ?_) gS ?_
  rotate_left
  focus (have hh := HS.out _ hw'; go_split_ands; go_simp; (try with_reducible rfl); done)
  (try simp only [Act.put, List.setIfInBounds_toArray, List.set_cons_zero, List.set_cons_succ])
  refine wpAnyG_one 8 (by kernel_rfl) rfl (by rfl) (fun K hK => ?_)
  go_simp
  go_at_call 74
  refine (oshare (L := 32) (NatsV.take_ (HV.out _ (Below.refl _ _).drew) hkn) (HN4.out.drew) (fun x hx => HOL.out x (List.mem_of_mem_take hx)) (by have := HL3.out; omega) (by rw [List.length_take]; rw [upto_length]; omega) (by omega)).mono ?_
  rintro _ s6 ⟨b6, A6, k6, c6, B6, l6, d6, rfl, h6, z6, n6, m6⟩
  have gS : Ext W4 s6 := Ext.trans gS z6
  have f6 := gS
  obtain ⟨r0, r1, r2, g0, g1, g2⟩ := HF.out _ (Y4.trans f6)
  (try go_wp2_with fail)
  refine hK.out _ _ (fun _ => gS) ?_
  clear hK K
  (try simp only [Act.put, List.setIfInBounds_toArray, List.set_cons_zero, List.set_cons_succ])
  refine wpAnyG_one 9 (by kernel_rfl) rfl (by rfl) (fun K hK => ?_)
  go_simp
  refine hK.out _ _ (fun h => absurd h (by decide)) ?_
  clear hK K
  (try simp only [Act.put, List.setIfInBounds_toArray, List.set_cons_zero, List.set_cons_succ])
  refine wpAnyG_one 10 (by kernel_rfl) rfl (by rfl) (fun K hK => ?_)
  go_simp
  refine hK.out _ _ (fun h => absurd h (by decide)) ?_
  clear hK K
  (try simp only [Act.put, List.setIfInBounds_toArray, List.set_cons_zero, List.set_cons_succ])
  refine wpAnyG_done (by kernel_rfl) ?_ _
  go_wp2
  obtain ⟨q0, q1, q2⟩ := set3 r0 r1 r2 (.bool b6) (.slice A6 k6 c6) (.slice B6 l6 d6)
  refine bodyPost_ret (v := .tuple #[.agg #[.bool b6, .slice A6 k6 c6, .slice B6 l6 d6], .int .i64 0]) (by simp [results, Tryd.results57, go_sem, q0, q1, q2]) rfl ?_
  exact GivesFE.box (HE.out.trans (Y4.trans f6)) (by rw [← HQ.out]; exact h6) (n6.mono (by have := Y4.size; simp; omega)) (m6.mono (by have := Y4.size; simp; omega)) (Nat.le_refl _)
set_option maxHeartbeats 2000000 in
theorem oatmost_no {n D d : Int} {w : World} (h : ¬ OccIn n D) : Calls Tryd.prog 57 #[.int .i64 n, .int .i64 D, .int .i64 d] w (GivesFN w 2) := by
  go_enter Tryd.func57, Tryd.ntmps57
  go_upto_region 1 with (fail)
  have hF0 := FBox.new w (.bool false) (.slice none 0 0) (.slice none 0 0) 27
  have x0 : Ext w (w.alloc (.cells #[.bool false, .slice none 0 0, .slice none 0 0] 27)) := ext_alloc (Below.refl _ _) _
  have hs0 : w.heap.size + 1 ≤ (w.alloc (.cells #[.bool false, .slice none 0 0, .slice none 0 0] 27)).heap.size := by simp
  generalize w.alloc (.cells #[.bool false, .slice none 0 0, .slice none 0 0] 27) = W0 at *
  have HF := Lib.hid (fun (w' : World) (h : Ext W0 w') => hF0.below h)
  have HE := Lib.hid x0
  have f0 : Ext W0 W0 := Below.refl _ _
  obtain ⟨r0, r1, r2, g0, g1, g2⟩ := hF0
  clear x0
  go_wp2_with (go_at_call 36; (with_reducible refine (ocheck_no h).mono ?_); rintro e w1 ⟨rfl, rfl⟩)
  obtain ⟨q0, q1, q2⟩ := set3 r0 r1 r2 (.bool false) (.slice none 0 0) (.slice none 0 0)
  refine bodyPost_ret (v := .tuple #[.agg #[.bool false, .slice none 0 0, .slice none 0 0], .int .i64 2]) (by simp [results, Tryd.results57, go_sem, q0, q1, q2]) rfl ?_
  exact ⟨rfl, ext_put HE.out (Nat.le_refl _) _ _ _⟩

set_option maxHeartbeats 4000000 in
theorem oatleast_ok {n D : Nat} {d : Int} {w : World} (hn : n ≤ 30) (hD1 : 1 ≤ D) (hD : D ≤ 60) (hd : -9223372036854775808 ≤ d ∧ d ≤ 9223372036854775807) (ht : Tab10 w) :
    Calls Tryd.prog 58 #[.int .i64 n, .int .i64 D, .int .i64 d] w (GivesFE w (leastQ n D d)) := by
  obtain ⟨kk, hkk⟩ : ∃ kk, kk = min d.toNat (n + 1) := ⟨_, rfl⟩
  have hmx : min (max d 0) ((n : Int) + 1) = (kk : Int) := by omega
  have hkn : kk ≤ n + 1 := by omega
  have hw1 : IntKind.i64.wrap ((n : Int) + 1) = (n : Int) + 1 := wrap_in (by omega)
  unfold leastQ
  rw [← hkk]
  have HQ := Lib.hid (show ((upto_ (occ n D) (n + 1)).drop kk).sum = D ^ n - sumTo (occ n D) kk from by
    have h1 := sum_upto_drop (occ n D) (n + 1) kk hkn
    rw [occ_sum] at h1
    omega)
  clear hkk
  have HT := Lib.hid (fun (w' : World) (h : Ext w w') => ht.ext h)
  have HL3 := Lib.hid (all_small hn hD)
  have HOL := Lib.hid (occ_mem_len hn hD)
  have hk0 : (0 : Int) ≤ (kk : Int) := by omega
  have hkn' : (kk : Int) ≤ (n : Int) + 1 := by omega
  clear ht hd
  go_enter Tryd.func58, Tryd.ntmps58
  go_upto_region 1 with (fail)
  have hB0 := FBox.new w (.bool false) (.slice none 0 0) (.slice none 0 0) 27
  have x0 : Ext w (w.alloc (.cells #[.bool false, .slice none 0 0, .slice none 0 0] 27)) := ext_alloc (Below.refl _ _) _
  have hs0 : w.heap.size + 1 ≤ (w.alloc (.cells #[.bool false, .slice none 0 0, .slice none 0 0] 27)).heap.size := by simp
  generalize (w.alloc (.cells #[.bool false, .slice none 0 0, .slice none 0 0] 27)) = W0 at *
  have HF := Lib.hid (fun (w' : World) (h : Ext W0 w') => hB0.below h)
  obtain ⟨r0, r1, r2, g0, g1, g2⟩ := hB0
  have HE := Lib.hid x0
  clear x0
  have f0 : Ext W0 W0 := Below.refl _ _
  go_wp2_with (go_at_call 36; (with_reducible refine (ocheck_ok (n := (n : Int)) (D := (D : Int)) (by omega) (by omega)).mono ?_); rintro e w1 ⟨rfl, rfl⟩)
  go_wp2_with fail
  refine (oways_n (n := n) (D := D) hn hD1 hD (HT.out _ HE.out)).mono ?_
  rintro e w4 ⟨A, c, A4, k4, c4, rfl, hV, h4, y4, nV, n4⟩
  rw [upto_length] at hV nV ⊢
  obtain ⟨_, _, e0, hcap1, hcap2⟩ := hV.form
  rw [upto_length] at e0 hcap1
  injection e0 with e1 e2 e3
  subst e1 e3
  clear e2
  go_upto_region 5 with (fail)
  have hB4 : (w4.alloc (.cells #[.slice A4 k4 c4] 25)).cell? ⟨w4.heap.size, 0, none⟩ = some (.slice A4 k4 c4) := by simp [go_sem]
  have Y4 : Ext w1 (w4.alloc (.cells #[.slice A4 k4 c4] 25)) := ext_alloc y4 _
  have h4 := h4.below (ext_alloc (Below.refl _ _) (.cells #[.slice A4 k4 c4] 25))
  have hV := hV.below (ext_alloc (Below.refl _ _) (.cells #[.slice A4 k4 c4] 25))
  have hsz4 : w4.heap.size < (w4.alloc (.cells #[.slice A4 k4 c4] 25)).heap.size := by simp
  have hlo4 : w1.heap.size ≤ w4.heap.size := y4.size
  generalize w4.alloc (.cells #[.slice A4 k4 c4] 25) = W4 at *
  generalize w4.heap.size = B4 at *
  have HB4 := Lib.hid (fun (w' : World) (h : Ext W4 w') => ((h.cell (p := ⟨B4, 0, none⟩) (World.block_lt_of_cell? _ _ hB4)).trans hB4 : w'.cell? ⟨B4, 0, none⟩ = some (.slice A4 k4 c4)))
  clear hB4 y4
  have HV := Lib.hid (fun (w' : World) (h : Ext W4 w') => hV.ext h)
  have HN4 := Lib.hid (h4.nat (by have := HL3.out; unfold Fit; omega))
  have HS := Lib.hid (fun w' (h : Ext W4 w') => HB4.out w' h)
  have hcap3 : (n : Int) + 1 ≤ (c : Int) := by omega
  clear hV h4
  have hcc : (kk : Int) ≤ (c : Int) := by omega
  have hsl := NatsV.drop_ (k := kk) (HV.out _ (Below.refl _ _)) hkn
  by_cases hck : c = kk
  · rw [if_pos hck] at hsl
    obtain rfl : kk = n + 1 := by omega
    obtain rfl : c = n + 1 := by omega
    rw [Nat.sub_self] at hsl
    have HSL := Lib.hid hsl
    have hmx' : min (max d 0) ((n : Int) + 1) = (n : Int) + 1 := by omega
    have hk0' : (0 : Int) ≤ (n : Int) + 1 := by omega
    clear hsl hck hmx hk0 hkn' hcc hkn hcap1 hcap3
    obtain ⟨r0, r1, r2, g0, g1, g2⟩ := HF.out _ Y4
    refine wp_region_G (fun w' => Ext W4 w') [9, 10] (by kernel_rfl) ?_
    have gS : Ext W4 W4.drew := (Below.refl _ _).drew
    refine wpAnyG_take 0 (v := ?_) rfl (by kernel_rfl) (by kernel_rfl) (by kernel_rfl) (by kernel_rfl) (by rfl) (by kernel_rfl) (fun _ _ _ h => h) (by rfl) (fun w' hw' => ?_) gS ?_
    rotate_left
    focus (go_simp; (try with_reducible rfl); done)
    (try simp only [Act.put, List.setIfInBounds_toArray, List.set_cons_zero, List.set_cons_succ])
    refine wpAnyG_take 1 (v := ?_) rfl (by kernel_rfl) (by kernel_rfl) (by kernel_rfl) (by kernel_rfl) (by rfl) (by kernel_rfl) (fun _ _ _ h => h) (by rfl) (fun w' hw' => ?_) gS ?_
    rotate_left
    focus (go_simp; (try with_reducible rfl); done)
    (try simp only [Act.put, List.setIfInBounds_toArray, List.set_cons_zero, List.set_cons_succ])
    refine wpAnyG_take 2 (v := ?_) rfl (by kernel_rfl) (by kernel_rfl) (by kernel_rfl) (by kernel_rfl) (by rfl) (by kernel_rfl) (fun _ _ _ h => h) (by rfl) (fun w' hw' => ?_) gS ?_
    rotate_left
    focus (go_simp; (try with_reducible rfl); done)
    (try simp only [Act.put, List.setIfInBounds_toArray, List.set_cons_zero, List.set_cons_succ])
    refine wpAnyG_take 3 (v := ?_) rfl (by kernel_rfl) (by kernel_rfl) (by kernel_rfl) (by kernel_rfl) (by rfl) (by kernel_rfl) (fun _ _ _ h => h) (by rfl) (fun w' hw' => ?_) gS ?_
    rotate_left
    focus (go_simp; (try with_reducible rfl); done)
    (try simp only [Act.put, List.setIfInBounds_toArray, List.set_cons_zero, List.set_cons_succ])
    refine wpAnyG_take 4 (v := ?_) rfl (by kernel_rfl) (by kernel_rfl) (by kernel_rfl) (by kernel_rfl) (by rfl) (by kernel_rfl) (fun _ _ _ h => h) (by rfl) (fun w' hw' => ?_) gS ?_
    rotate_left
    focus (go_simp; (try with_reducible rfl); done)
    (try simp only [Act.put, List.setIfInBounds_toArray, List.set_cons_zero, List.set_cons_succ])
    refine wpAnyG_take 5 (v := ?_) rfl (by kernel_rfl) (by kernel_rfl) (by kernel_rfl) (by kernel_rfl) (by rfl) (by kernel_rfl) (fun _ _ _ h => h) (by rfl) (fun w' hw' => ?_) gS ?_
    rotate_left
    focus (go_simp; (try with_reducible rfl); done)
    (try simp only [Act.put, List.setIfInBounds_toArray, List.set_cons_zero, List.set_cons_succ])
    refine wpAnyG_take 6 (v := ?_) rfl (by kernel_rfl) (by kernel_rfl) (by kernel_rfl) (by kernel_rfl) (by rfl) (by kernel_rfl) (fun _ _ _ h => h) (by rfl) (fun w' hw' => ?_) gS ?_
    rotate_left
    focus (go_simp; (try with_reducible rfl); done)
    (try simp only [Act.put, List.setIfInBounds_toArray, List.set_cons_zero, List.set_cons_succ])
    refine wpAnyG_take 7 (v := ?_) rfl (by kernel_rfl) (by kernel_rfl) (by kernel_rfl) (by kernel_rfl) (by rfl) (by kernel_rfl) (fun _ _ _ h => h) (by rfl) (fun w' hw' => ?_) gS ?_
    rotate_left
    focus (have hh := HS.out _ hw'; go_split_ands; go_simp; (try with_reducible rfl); done)
    (try simp only [Act.put, List.setIfInBounds_toArray, List.set_cons_zero, List.set_cons_succ])
    refine wpAnyG_one 8 (by kernel_rfl) rfl (by rfl) (fun K hK => ?_)
    go_simp
    go_at_call 74
    refine (oshare (L := 32) (HSL.out.ext (Below.refl _ _).drew) (HN4.out.drew) (fun x hx => HOL.out x (List.mem_of_mem_drop hx)) (by have := HL3.out; omega) (by rw [List.length_drop]; rw [upto_length]; omega) (by omega)).mono ?_
    rintro _ s6 ⟨b6, A6, k6, c6, B6, l6, d6, rfl, h6, z6, n6, m6⟩
    have gS : Ext W4 s6 := Ext.trans gS z6
    have f6 := gS
    obtain ⟨r0, r1, r2, g0, g1, g2⟩ := HF.out _ (Y4.trans f6)
    (try go_wp2_with fail)
    refine hK.out _ _ (fun _ => gS) ?_
    clear hK K
    (try simp only [Act.put, List.setIfInBounds_toArray, List.set_cons_zero, List.set_cons_succ])
    refine wpAnyG_one 9 (by kernel_rfl) rfl (by rfl) (fun K hK => ?_)
    go_simp
    refine hK.out _ _ (fun h => absurd h (by decide)) ?_
    clear hK K
    (try simp only [Act.put, List.setIfInBounds_toArray, List.set_cons_zero, List.set_cons_succ])
    refine wpAnyG_one 10 (by kernel_rfl) rfl (by rfl) (fun K hK => ?_)
    go_simp
    refine hK.out _ _ (fun h => absurd h (by decide)) ?_
    clear hK K
    (try simp only [Act.put, List.setIfInBounds_toArray, List.set_cons_zero, List.set_cons_succ])
    refine wpAnyG_done (by kernel_rfl) ?_ _
    go_wp2
    obtain ⟨q0, q1, q2⟩ := set3 r0 r1 r2 (.bool b6) (.slice A6 k6 c6) (.slice B6 l6 d6)
    refine bodyPost_ret (v := .tuple #[.agg #[.bool b6, .slice A6 k6 c6, .slice B6 l6 d6], .int .i64 0]) (by simp [results, Tryd.results58, go_sem, q0, q1, q2]) rfl ?_
    exact GivesFE.box (HE.out.trans (Y4.trans f6)) (by rw [← HQ.out]; exact h6) (n6.mono (by have := Y4.size; simp; omega)) (m6.mono (by have := Y4.size; simp; omega)) (Nat.le_refl _)
  · rw [if_neg hck] at hsl
    have HSL := Lib.hid hsl
    clear hsl
    obtain ⟨r0, r1, r2, g0, g1, g2⟩ := HF.out _ Y4
    refine wp_region_G (fun w' => Ext W4 w') [9, 10] (by kernel_rfl) ?_
    have gS : Ext W4 W4.drew := (Below.refl _ _).drew
    refine wpAnyG_take 0 (v := ?_) rfl (by kernel_rfl) (by kernel_rfl) (by kernel_rfl) (by kernel_rfl) (by rfl) (by kernel_rfl) (fun _ _ _ h => h) (by rfl) (fun w' hw' => ?_) gS ?_
    rotate_left
    focus (go_simp; (try with_reducible rfl); done)
    (try simp only [Act.put, List.setIfInBounds_toArray, List.set_cons_zero, List.set_cons_succ])
    refine wpAnyG_take 1 (v := ?_) rfl (by kernel_rfl) (by kernel_rfl) (by kernel_rfl) (by kernel_rfl) (by rfl) (by kernel_rfl) (fun _ _ _ h => h) (by rfl) (fun w' hw' => ?_) gS ?_
    rotate_left
    focus (go_simp; (try with_reducible rfl); done)
    (try simp only [Act.put, List.setIfInBounds_toArray, List.set_cons_zero, List.set_cons_succ])
    refine wpAnyG_take 2 (v := ?_) rfl (by kernel_rfl) (by kernel_rfl) (by kernel_rfl) (by kernel_rfl) (by rfl) (by kernel_rfl) (fun _ _ _ h => h) (by rfl) (fun w' hw' => ?_) gS ?_
    rotate_left
    focus (go_simp; (try with_reducible rfl); done)
    (try simp only [Act.put, List.setIfInBounds_toArray, List.set_cons_zero, List.set_cons_succ])
    refine wpAnyG_take 3 (v := ?_) rfl (by kernel_rfl) (by kernel_rfl) (by kernel_rfl) (by kernel_rfl) (by rfl) (by kernel_rfl) (fun _ _ _ h => h) (by rfl) (fun w' hw' => ?_) gS ?_
    rotate_left
    focus (go_simp; (try with_reducible rfl); done)
    (try simp only [Act.put, List.setIfInBounds_toArray, List.set_cons_zero, List.set_cons_succ])
    refine wpAnyG_take 4 (v := ?_) rfl (by kernel_rfl) (by kernel_rfl) (by kernel_rfl) (by kernel_rfl) (by rfl) (by kernel_rfl) (fun _ _ _ h => h) (by rfl) (fun w' hw' => ?_) gS ?_
    rotate_left
    focus (go_simp; (try with_reducible rfl); done)
    (try simp only [Act.put, List.setIfInBounds_toArray, List.set_cons_zero, List.set_cons_succ])
    refine wpAnyG_take 5 (v := ?_) rfl (by kernel_rfl) (by kernel_rfl) (by kernel_rfl) (by kernel_rfl) (by rfl) (by kernel_rfl) (fun _ _ _ h => h) (by rfl) (fun w' hw' => ?_) gS ?_
    rotate_left
    focus (go_simp; (try with_reducible rfl); done)
    (try simp only [Act.put, List.setIfInBounds_toArray, List.set_cons_zero, List.set_cons_succ])
    refine wpAnyG_take 6 (v := ?_) rfl (by kernel_rfl) (by kernel_rfl) (by kernel_rfl) (by kernel_rfl) (by rfl) (by kernel_rfl) (fun _ _ _ h => h) (by rfl) (fun w' hw' => ?_) gS ?_
    rotate_left
    focus (go_simp; (try with_reducible rfl); done)
    (try simp only [Act.put, List.setIfInBounds_toArray, List.set_cons_zero, List.set_cons_succ])
    refine wpAnyG_take 7 (v := ?_) rfl (by kernel_rfl) (by kernel_rfl) (by kernel_rfl) (by kernel_rfl) (by rfl) (by kernel_rfl) (fun _ _ _ h => h) (by rfl) (fun w' hw' => ?_) gS ?_
    rotate_left
    focus (have hh := HS.out _ hw'; go_split_ands; go_simp; (try with_reducible rfl); done)
    (try simp only [Act.put, List.setIfInBounds_toArray, List.set_cons_zero, List.set_cons_succ])
    refine wpAnyG_one 8 (by kernel_rfl) rfl (by rfl) (fun K hK => ?_)
    go_simp
    go_at_call 74
    refine (oshare (L := 32) (HSL.out.ext (Below.refl _ _).drew) (HN4.out.drew) (fun x hx => HOL.out x (List.mem_of_mem_drop hx)) (by have := HL3.out; omega) (by rw [List.length_drop]; rw [upto_length]; omega) (by omega)).mono ?_
    rintro _ s6 ⟨b6, A6, k6, c6, B6, l6, d6, rfl, h6, z6, n6, m6⟩
    have gS : Ext W4 s6 := Ext.trans gS z6
    have f6 := gS
    obtain ⟨r0, r1, r2, g0, g1, g2⟩ := HF.out _ (Y4.trans f6)
    (try go_wp2_with fail)
    refine hK.out _ _ (fun _ => gS) ?_
    clear hK K
    (try simp only [Act.put, List.setIfInBounds_toArray, List.set_cons_zero, List.set_cons_succ])
    refine wpAnyG_one 9 (by kernel_rfl) rfl (by rfl) (fun K hK => ?_)
    go_simp
    refine hK.out _ _ (fun h => absurd h (by decide)) ?_
    clear hK K
    (try simp only [Act.put, List.setIfInBounds_toArray, List.set_cons_zero, List.set_cons_succ])
    refine wpAnyG_one 10 (by kernel_rfl) rfl (by rfl) (fun K hK => ?_)
    go_simp
    refine hK.out _ _ (fun h => absurd h (by decide)) ?_
    clear hK K
    (try simp only [Act.put, List.setIfInBounds_toArray, List.set_cons_zero, List.set_cons_succ])
    refine wpAnyG_done (by kernel_rfl) ?_ _
    go_wp2
    obtain ⟨q0, q1, q2⟩ := set3 r0 r1 r2 (.bool b6) (.slice A6 k6 c6) (.slice B6 l6 d6)
    refine bodyPost_ret (v := .tuple #[.agg #[.bool b6, .slice A6 k6 c6, .slice B6 l6 d6], .int .i64 0]) (by simp [results, Tryd.results58, go_sem, q0, q1, q2]) rfl ?_
    exact GivesFE.box (HE.out.trans (Y4.trans f6)) (by rw [← HQ.out]; exact h6) (n6.mono (by have := Y4.size; simp; omega)) (m6.mono (by have := Y4.size; simp; omega)) (Nat.le_refl _)
set_option maxHeartbeats 2000000 in
theorem oatleast_no {n D d : Int} {w : World} (h : ¬ OccIn n D) : Calls Tryd.prog 58 #[.int .i64 n, .int .i64 D, .int .i64 d] w (GivesFN w 2) := by
  go_enter Tryd.func58, Tryd.ntmps58
  go_upto_region 1 with (fail)
  have hF0 := FBox.new w (.bool false) (.slice none 0 0) (.slice none 0 0) 27
  have x0 : Ext w (w.alloc (.cells #[.bool false, .slice none 0 0, .slice none 0 0] 27)) := ext_alloc (Below.refl _ _) _
  have hs0 : w.heap.size + 1 ≤ (w.alloc (.cells #[.bool false, .slice none 0 0, .slice none 0 0] 27)).heap.size := by simp
  generalize w.alloc (.cells #[.bool false, .slice none 0 0, .slice none 0 0] 27) = W0 at *
  have HF := Lib.hid (fun (w' : World) (h : Ext W0 w') => hF0.below h)
  have HE := Lib.hid x0
  have f0 : Ext W0 W0 := Below.refl _ _
  obtain ⟨r0, r1, r2, g0, g1, g2⟩ := hF0
  clear x0
  go_wp2_with (go_at_call 36; (with_reducible refine (ocheck_no h).mono ?_); rintro e w1 ⟨rfl, rfl⟩)
  obtain ⟨q0, q1, q2⟩ := set3 r0 r1 r2 (.bool false) (.slice none 0 0) (.slice none 0 0)
  refine bodyPost_ret (v := .tuple #[.agg #[.bool false, .slice none 0 0, .slice none 0 0], .int .i64 2]) (by simp [results, Tryd.results58, go_sem, q0, q1, q2]) rfl ?_
  exact ⟨rfl, ext_put HE.out (Nat.le_refl _) _ _ _⟩

end Go.Proofs.YtjdpkmngboiemaaDoor
