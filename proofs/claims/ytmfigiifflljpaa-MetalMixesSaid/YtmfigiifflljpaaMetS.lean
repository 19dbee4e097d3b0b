/- metal: Solve. -/
import Derived.Test.YtmfigiifflljpaaMetF
set_option linter.unusedVariables false
set_option linter.unusedSimpArgs false
set_option maxRecDepth 100000
namespace Go.Proofs.Ytmfigiifflljpaa
open Go.RowKit Num

set_option maxHeartbeats 8000000 in
theorem msolve_ok {K : Bool} {v x : Value} {n N L : Nat} {A : Mx} {b : Nat → Rat} {w : World} (hv : EMat K w v n N A) (hb : EFs K w x n b) (hfb : FBm A n N L) (hfx : ∀ k, k < n → FB (b k) L) (hL3 : 3 ≤ L) (hL : L ≤ 1000) (hn : n ≤ 8) (hN : N ≤ 8) (hz : n = 0 → N = 0) :
    Calls Try.prog 24 #[v, x] w (GivesL w (solN (rrefs (wide A b N) n (N + 1)) N) (fun i => (rrefs (wide A b N) n (N + 1)).m i N) (solE (rrefs (wide A b N) n (N + 1)) N)) := by
  have HVA := Lib.hid (hv.valid hn hN)
  have HCO := Lib.hid (fun (w' : World) (h : Ext w w') => (hv.below h).cols hz)
  have HV := Lib.hid (fun (w' : World) (h : Ext w w') => hv.below h)
  have HX := Lib.hid (fun (w' : World) (h : Ext w w') => hb.below h)
  have HX0 := Lib.hid hb
  have HV0 := Lib.hid hv
  have HFW := Lib.hid (show FBm (wide A b N) n (N + 1) L from fun i j hi hj => by
    unfold wide
    split
    · exact hfb i j hi (by omega)
    · exact hfx i hi)
  obtain ⟨C, hC⟩ : ∃ C, C = if n = 0 then 0 else N + 1 := ⟨_, rfl⟩
  have hC9 : C ≤ 9 := by rw [hC]; split <;> omega
  have hCz : n = 0 → C = 0 := fun h => by rw [hC, if_pos h]
  have HCn := Lib.hid (show n ≠ 0 → C = N + 1 from fun h => by rw [hC, if_neg h])
  have HZN := Lib.hid hz
  have HFC := Lib.hid (show FBm (wide A b N) n C L from fun i j hi hj => HFW.out i j hi (by rw [hC] at hj; split at hj <;> omega))
  have HCz := Lib.hid hCz
  obtain ⟨AV, cap, rfl, hc1, hc2⟩ := hv.form
  obtain ⟨A0, c0, rfl, hc3, hc4⟩ := hb.form
  obtain ⟨i0, hi, hz0, hz1, hz2⟩ := info_parts info_frac
  obtain ⟨j0, hj, hy0, hy1, hy2⟩ := info_parts info_fl
  have hnn : ((n : Int) != (n : Int)) = false := by simp
  obtain ⟨R, hR⟩ : ∃ R, R = rrefs (wide A b N) n (N + 1) := ⟨_, rfl⟩
  have HR := Lib.hid hR
  rw [← hR]
  clear hv hb hfb hfx hz hC hCz hR
  go_enter Try.func24, Try.ntmps24
  go_wp2_with (first
    | (go_at_call 21; (with_reducible refine HVA.out.mono ?_); rintro e w1 ⟨rfl, x1⟩)
    | (go_at_call 44; (with_reducible refine (HCO.out _ x1).mono ?_); rintro e w2 ⟨rfl, hw2⟩; obtain rfl : w1 = w2 := hw2.symm))
  go_loopw [7, 28] (fun mv iv wr => ∃ (k : Nat) (us : List Value), k ≤ n ∧ iv = .int .i64 k ∧ Hid (MatO K w.heap.size wr mv k (N + 1) us us (wide A b N)) ∧ Ext w wr) (fun _ iv _ => n - (intOf iv).toNat)
  case atStart => exact ⟨0, [], Nat.zero_le _, rfl, Lib.hid (MatO.nil_ _ _ _ _ _), x1⟩
  case round =>
    obtain ⟨k, us, hk, rfl, HM, hx⟩ := hrel
    by_cases hkn : k < n
    · obtain ⟨bb, ob, A1, cp1, rfl, hbl, hcell, hrow⟩ := (HV0.out).at_ hkn
      obtain ⟨ts, hts⟩ := hrow.named
      have HTS := Lib.hid hts.ent
      have HT := Lib.hid (fun (w' : World) (h : Ext wr w') => hts.below (hx.trans h))
      obtain ⟨bx, ox, nb, B1, q1, r1, B2, q2, r2, rfl, hbx, e0, e1, e2, hbe⟩ := (HX0.out).at_ hkn
      have HB0 := Lib.hid hbe
      have hcell := (hx.cell (p := ⟨bb, ob + k, none⟩) hbl).trans hcell
      have hbl : bb < wr.heap.size := Nat.lt_of_lt_of_le hbl hx.size
      have HS := Lib.hid (fun (w' : World) (h : Ext wr w') => (⟨((hx.trans h).cell (p := ⟨bx, ox + k * 3, none⟩) hbx).trans e0, ((hx.trans h).cell (p := ⟨bx, ox + k * 3 + 1, none⟩) hbx).trans e1, ((hx.trans h).cell (p := ⟨bx, ox + k * 3 + 2, none⟩) hbx).trans e2⟩ : w'.cell? ⟨bx, ox + k * 3, none⟩ = some (.bool nb) ∧ w'.cell? ⟨bx, ox + k * 3 + 1, none⟩ = some (.slice B1 q1 r1) ∧ w'.cell? ⟨bx, ox + k * 3 + 2, none⟩ = some (.slice B2 q2 r2)))
      have hi1 : (0 : Int) ≤ (k : Int) := by omega
      have hi2 : (k : Int) < (n : Int) := by omega
      clear hrow hts e0 e1 e2 hbe
      go_upto_region 8 with (fail)
      refine wp_region_G (fun w' => Ext wr w') [10, 11] (by kernel_rfl) ?_
      have gS : Ext wr wr.drew := (Below.refl _ _).drew
      refine wpAnyG_take 0 (v := ?_) rfl (by kernel_rfl) (by kernel_rfl) (by kernel_rfl) (by kernel_rfl) (by rfl) (by kernel_rfl) (fun _ _ _ h => h) (by rfl) (fun w' hw' => ?_) gS ?_
      rotate_left
      focus (go_simp; (try with_reducible rfl); done)
      (try simp only [Act.put, List.getElem_toArray, List.getElem_cons_succ, List.getElem_cons_zero, List.setIfInBounds_toArray, List.set_cons_zero, List.set_cons_succ])
      refine wpAnyG_take 1 (v := ?_) rfl (by kernel_rfl) (by kernel_rfl) (by kernel_rfl) (by kernel_rfl) (by rfl) (by kernel_rfl) (fun _ _ _ h => h) (by rfl) (fun w' hw' => ?_) gS ?_
      rotate_left
      focus (go_simp; (try with_reducible rfl); done)
      (try simp only [Act.put, List.getElem_toArray, List.getElem_cons_succ, List.getElem_cons_zero, List.setIfInBounds_toArray, List.set_cons_zero, List.set_cons_succ])
      refine wpAnyG_take 3 (v := ?_) rfl (by kernel_rfl) (by kernel_rfl) (by kernel_rfl) (by kernel_rfl) (by rfl) (by kernel_rfl) (fun _ _ _ h => h) (by rfl) (fun w' hw' => ?_) gS ?_
      rotate_left
      focus (go_simp; (try with_reducible rfl); done)
      (try simp only [Act.put, List.getElem_toArray, List.getElem_cons_succ, List.getElem_cons_zero, List.setIfInBounds_toArray, List.set_cons_zero, List.set_cons_succ])
      refine wpAnyG_take 4 (v := ?_) rfl (by kernel_rfl) (by kernel_rfl) (by kernel_rfl) (by kernel_rfl) (by rfl) (by kernel_rfl) (fun _ _ _ h => h) (by rfl) (fun w' hw' => ?_) gS ?_
      rotate_left
      focus (go_simp; (try with_reducible rfl); done)
      (try simp only [Act.put, List.getElem_toArray, List.getElem_cons_succ, List.getElem_cons_zero, List.setIfInBounds_toArray, List.set_cons_zero, List.set_cons_succ])
      refine wpAnyG_take 5 (v := ?_) rfl (by kernel_rfl) (by kernel_rfl) (by kernel_rfl) (by kernel_rfl) (by rfl) (by kernel_rfl) (fun _ _ _ h => h) (by rfl) (fun w' hw' => ?_) gS ?_
      rotate_left
      focus (go_simp; (try with_reducible rfl); done)
      (try simp only [Act.put, List.getElem_toArray, List.getElem_cons_succ, List.getElem_cons_zero, List.setIfInBounds_toArray, List.set_cons_zero, List.set_cons_succ])
      refine wpAnyG_take 6 (v := ?_) rfl (by kernel_rfl) (by kernel_rfl) (by kernel_rfl) (by kernel_rfl) (by rfl) (by kernel_rfl) (fun _ _ _ h => h) (by rfl) (fun w' hw' => ?_) gS ?_
      rotate_left
      focus (have hh := HS.out _ hw'; go_split_ands; go_simp; (try with_reducible rfl); done)
      (try simp only [Act.put, List.getElem_toArray, List.getElem_cons_succ, List.getElem_cons_zero, List.setIfInBounds_toArray, List.set_cons_zero, List.set_cons_succ])
      refine wpAnyG_two 2 7 (by kernel_rfl) rfl rfl (by rfl) (by rfl) (fun K hK => ?_) (fun K hK => ?_)
      · (try simp only [List.getElem_toArray, List.getElem_cons_succ, List.getElem_cons_zero])
        go_simp
        go_at_call 45
        refine (eclone_n (HT.out _ gS) (by omega)).mono ?_
        rintro _ s2 ⟨A2, c2, rfl, hrow, x2⟩
        have hrow : s2.ownsRow wr.heap.size 34 3 (.slice A2 N c2) N (fcells ts) := ownsRow_base hrow (by have := gS.size; omega)
        have gS : Ext wr s2 := Ext.trans gS x2
        (try go_wp2_with fail)
        refine hK.out _ _ (fun _ => gS) ?_
        clear hK K
        (try simp only [Act.put, List.getElem_toArray, List.getElem_cons_succ, List.getElem_cons_zero, List.setIfInBounds_toArray, List.set_cons_zero, List.set_cons_succ])
        refine wpAnyG_one 7 (by kernel_rfl) rfl (by rfl) (fun K hK => ?_)
        go_simp
        have hcl := cell_three s2 (.bool nb) (.slice B1 q1 r1) (.slice B2 q2 r2) 34
        have x3 : Ext s2 (s2.alloc (.cells #[.bool nb, .slice B1 q1 r1, .slice B2 q2 r2] 34)) := ext_alloc (Below.refl _ _) _
        have hrow3 := hrow.kept (Ext.grown x3) (by cases A2 <;> simp [Value.ownBlock])
        have gS : Ext wr (s2.alloc (.cells #[.bool nb, .slice B1 q1 r1, .slice B2 q2 r2] 34)) := gS.trans x3
        generalize s2.alloc (.cells #[.bool nb, .slice B1 q1 r1, .slice B2 q2 r2] 34) = s3 at *
        clear hrow x3
        (try go_wp2_with fail)
        refine hK.out _ _ (fun _ => gS) ?_
        clear hK K
        (try simp only [Act.put, List.getElem_toArray, List.getElem_cons_succ, List.getElem_cons_zero, List.setIfInBounds_toArray, List.set_cons_zero, List.set_cons_succ])
        refine wpAnyG_one 8 (by kernel_rfl) rfl (by rfl) (fun K hK => ?_)
        refine wp_append_mine _ (.tmp 35) (.tmp 40) 39 (by rfl) wr.heap.size 34 i0 (.agg #[.bool false, .slice none 0 0, .slice none 0 0]) 3 56 Try.underlying39 hi hz0 hz1 hz2 rfl (by omega) _ _ _ (by rfl) hrow3 ⟨s2.heap.size, 0, none⟩ 1 1 [.bool nb, .slice B1 q1 r1, .slice B2 q2 r2] (by rfl) rfl hcl (by simp [Value.oneCell']) (by unfold maxLen; omega) (by omega) (by have := gS.size; omega) ?_
        intro v4 w4 ho4 hg4 hw4
        have gS : Ext wr w4 := Below.grown gS hg4 (by have := gS.size; omega) fun g hg => (hrow3.lt g hg).1
        obtain ⟨A4, c4, rfl⟩ := own_form ho4
        rw [fcells_snoc ts ⟨nb, .slice B1 q1 r1, .slice B2 q2 r2⟩] at ho4
        have gR := gS
        clear hrow3 hcl hg4 hw4
        (try go_wp2_with fail)
        refine hK.out _ _ (fun _ => gS) ?_
        clear hK K
        (try simp only [Act.put, List.getElem_toArray, List.getElem_cons_succ, List.getElem_cons_zero, List.setIfInBounds_toArray, List.set_cons_zero, List.set_cons_succ])
        refine wpAnyG_one 9 (by kernel_rfl) rfl (by rfl) (fun K hK => ?_)
        (try simp only [List.getElem_toArray, List.getElem_cons_succ, List.getElem_cons_zero])
        go_simp
        have gS : Ext wr (w4.alloc (.cells #[.slice A4 (N + 1) c4] 39)) := ext_alloc gS _
        (try go_wp2_with fail)
        refine hK.out _ _ (fun _ => gS) ?_
        clear hK K
        (try simp only [Act.put, List.getElem_toArray, List.getElem_cons_succ, List.getElem_cons_zero, List.setIfInBounds_toArray, List.set_cons_zero, List.set_cons_succ])
        refine wpAnyG_one 10 (by kernel_rfl) rfl (by rfl) (fun K hK => ?_)
        (try simp only [List.getElem_toArray, List.getElem_cons_succ, List.getElem_cons_zero])
        refine wp_append_mine _ (.tmp 33) (.tmp 42) 22 (by rfl) w.heap.size 39 j0 (.slice none 0 0) 1 24 Try.underlying22 hj hy0 hy1 hy2 rfl (by omega) _ _ _ (by rfl) (HM.out.ext gS).own ⟨w4.heap.size, 0, none⟩ 1 1 [.slice A4 (N + 1) c4] (by rfl) rfl (cell_one w4 _ _) (by simp [Value.oneCell']) (by unfold maxLen; omega) (by omega) (by have := hx.size; have := gS.size; omega) ?_
        intro v8 w8 ho8 hg8 hw8
        have hM8 := Lib.hid (HM.out.push_in hx (ext_alloc gR _) (ho4.kept (Ext.grown (ext_alloc (Below.refl _ _) _)) (by cases A4 <;> simp [Value.ownBlock])) (by rw [List.length_append, HTS.out.1]; rfl) (wide_ts HTS.out.1 HTS.out.2 HB0.out) ho8 hg8 hw8)
        have hx8 : Ext w w8 := Below.grown (Ext.trans hx gS) hg8 (by have := hx.size; have := gS.size; omega) fun g hg => (HM.out.lt (.inl hg)).1
        clear ho8 hg8 hw8 ho4
        refine hK.out _ _ (fun h => absurd h (by decide)) ?_
        clear hK K
        (try simp only [Act.put, List.getElem_toArray, List.getElem_cons_succ, List.getElem_cons_zero, List.setIfInBounds_toArray, List.set_cons_zero, List.set_cons_succ])
        refine wpAnyG_one 11 (by kernel_rfl) rfl (by rfl) (fun K hK => ?_)
        (try simp only [List.getElem_toArray, List.getElem_cons_succ, List.getElem_cons_zero])
        go_simp
        refine hK.out _ _ (fun h => absurd h (by decide)) ?_
        clear hK K
        (try simp only [Act.put, List.getElem_toArray, List.getElem_cons_succ, List.getElem_cons_zero, List.setIfInBounds_toArray, List.set_cons_zero, List.set_cons_succ])
        refine wpAnyG_done (by kernel_rfl) ?_ _
        go_wp2
        go_roundw
        case rel => exact ⟨k + 1, _, by omega, by go_num, hM8, hx8⟩
        case measure => simp [intOf]; omega
      · (try simp only [List.getElem_toArray, List.getElem_cons_succ, List.getElem_cons_zero])
        go_simp
        have hcl : ∀ (j : Nat) (u : Value), [Value.bool nb, .slice B1 q1 r1, .slice B2 q2 r2][j]? = some u → (wr.alloc (.cells #[.bool nb, .slice B1 q1 r1, .slice B2 q2 r2] 34)).drew.cell? ((⟨wr.heap.size, 0, none⟩ : Addr).add j) = some u := cell_three wr (.bool nb) (.slice B1 q1 r1) (.slice B2 q2 r2) 34
        have hlt : wr.heap.size < (wr.alloc (.cells #[.bool nb, .slice B1 q1 r1, .slice B2 q2 r2] 34)).drew.heap.size := by simp
        have gS : Ext wr (wr.alloc (.cells #[.bool nb, .slice B1 q1 r1, .slice B2 q2 r2] 34)).drew := (ext_alloc (Below.refl _ _) _).drew
        generalize (wr.alloc (.cells #[.bool nb, .slice B1 q1 r1, .slice B2 q2 r2] 34)).drew = s2 at *
        (try go_wp2_with fail)
        refine hK.out _ _ (fun _ => gS) ?_
        clear hK K
        (try simp only [Act.put, List.getElem_toArray, List.getElem_cons_succ, List.getElem_cons_zero, List.setIfInBounds_toArray, List.set_cons_zero, List.set_cons_succ])
        refine wpAnyG_one 2 (by kernel_rfl) rfl (by rfl) (fun K hK => ?_)
        go_simp
        go_at_call 45
        refine (eclone_n (HT.out _ gS) (by omega)).mono ?_
        rintro _ s3 ⟨A2, c2, rfl, hrow, x3⟩
        have hrow3 : s3.ownsRow wr.heap.size 34 3 (.slice A2 N c2) N (fcells ts) := ownsRow_base hrow (by have := gS.size; omega)
        have gS : Ext wr s3 := Ext.trans gS x3
        have hcl : ∀ (j : Nat) (u : Value), [Value.bool nb, .slice B1 q1 r1, .slice B2 q2 r2][j]? = some u → s3.cell? ((⟨wr.heap.size, 0, none⟩ : Addr).add j) = some u := fun j u hu => (x3.cell (p := (⟨wr.heap.size, 0, none⟩ : Addr).add j) (by rw [block_of_add]; exact hlt)).trans (hcl j u hu)
        clear hrow x3 hlt
        (try go_wp2_with fail)
        refine hK.out _ _ (fun _ => gS) ?_
        clear hK K
        (try simp only [Act.put, List.getElem_toArray, List.getElem_cons_succ, List.getElem_cons_zero, List.setIfInBounds_toArray, List.set_cons_zero, List.set_cons_succ])
        refine wpAnyG_one 8 (by kernel_rfl) rfl (by rfl) (fun K hK => ?_)
        refine wp_append_mine _ (.tmp 35) (.tmp 40) 39 (by rfl) wr.heap.size 34 i0 (.agg #[.bool false, .slice none 0 0, .slice none 0 0]) 3 56 Try.underlying39 hi hz0 hz1 hz2 rfl (by omega) _ _ _ (by rfl) hrow3 ⟨wr.heap.size, 0, none⟩ 1 1 [.bool nb, .slice B1 q1 r1, .slice B2 q2 r2] (by rfl) rfl hcl (by simp [Value.oneCell']) (by unfold maxLen; omega) (by omega) (by have := gS.size; omega) ?_
        intro v4 w4 ho4 hg4 hw4
        have gS : Ext wr w4 := Below.grown gS hg4 (by have := gS.size; omega) fun g hg => (hrow3.lt g hg).1
        obtain ⟨A4, c4, rfl⟩ := own_form ho4
        rw [fcells_snoc ts ⟨nb, .slice B1 q1 r1, .slice B2 q2 r2⟩] at ho4
        have gR := gS
        clear hrow3 hcl hg4 hw4
        (try go_wp2_with fail)
        refine hK.out _ _ (fun _ => gS) ?_
        clear hK K
        (try simp only [Act.put, List.getElem_toArray, List.getElem_cons_succ, List.getElem_cons_zero, List.setIfInBounds_toArray, List.set_cons_zero, List.set_cons_succ])
        refine wpAnyG_one 9 (by kernel_rfl) rfl (by rfl) (fun K hK => ?_)
        (try simp only [List.getElem_toArray, List.getElem_cons_succ, List.getElem_cons_zero])
        go_simp
        have gS : Ext wr (w4.alloc (.cells #[.slice A4 (N + 1) c4] 39)) := ext_alloc gS _
        (try go_wp2_with fail)
        refine hK.out _ _ (fun _ => gS) ?_
        clear hK K
        (try simp only [Act.put, List.getElem_toArray, List.getElem_cons_succ, List.getElem_cons_zero, List.setIfInBounds_toArray, List.set_cons_zero, List.set_cons_succ])
        refine wpAnyG_one 10 (by kernel_rfl) rfl (by rfl) (fun K hK => ?_)
        (try simp only [List.getElem_toArray, List.getElem_cons_succ, List.getElem_cons_zero])
        refine wp_append_mine _ (.tmp 33) (.tmp 42) 22 (by rfl) w.heap.size 39 j0 (.slice none 0 0) 1 24 Try.underlying22 hj hy0 hy1 hy2 rfl (by omega) _ _ _ (by rfl) (HM.out.ext gS).own ⟨w4.heap.size, 0, none⟩ 1 1 [.slice A4 (N + 1) c4] (by rfl) rfl (cell_one w4 _ _) (by simp [Value.oneCell']) (by unfold maxLen; omega) (by omega) (by have := hx.size; have := gS.size; omega) ?_
        intro v8 w8 ho8 hg8 hw8
        have hM8 := Lib.hid (HM.out.push_in hx (ext_alloc gR _) (ho4.kept (Ext.grown (ext_alloc (Below.refl _ _) _)) (by cases A4 <;> simp [Value.ownBlock])) (by rw [List.length_append, HTS.out.1]; rfl) (wide_ts HTS.out.1 HTS.out.2 HB0.out) ho8 hg8 hw8)
        have hx8 : Ext w w8 := Below.grown (Ext.trans hx gS) hg8 (by have := hx.size; have := gS.size; omega) fun g hg => (HM.out.lt (.inl hg)).1
        clear ho8 hg8 hw8 ho4
        refine hK.out _ _ (fun h => absurd h (by decide)) ?_
        clear hK K
        (try simp only [Act.put, List.getElem_toArray, List.getElem_cons_succ, List.getElem_cons_zero, List.setIfInBounds_toArray, List.set_cons_zero, List.set_cons_succ])
        refine wpAnyG_one 11 (by kernel_rfl) rfl (by rfl) (fun K hK => ?_)
        (try simp only [List.getElem_toArray, List.getElem_cons_succ, List.getElem_cons_zero])
        go_simp
        refine hK.out _ _ (fun h => absurd h (by decide)) ?_
        clear hK K
        (try simp only [Act.put, List.getElem_toArray, List.getElem_cons_succ, List.getElem_cons_zero, List.setIfInBounds_toArray, List.set_cons_zero, List.set_cons_succ])
        refine wpAnyG_done (by kernel_rfl) ?_ _
        go_wp2
        go_roundw
        case rel => exact ⟨k + 1, _, by omega, by go_num, hM8, hx8⟩
        case measure => simp [intOf]; omega
    · obtain rfl : n = k := by omega
      have hkk : ¬ ((n : Int) < (n : Int)) := by omega
      have HME := Lib.hid (fun (w' : World) (h : Ext wr w') => HM.out.mat.below h)
      obtain ⟨AW, cW, rfl, _, _⟩ := HM.out.mat.form
      have HRD := Lib.hid (show Calls Try.prog 42 #[.slice AW n cW] wr (fun e w' => ∃ A c A' c', e = .returned (.tuple #[.slice A n c, .slice A' R.leads.length c']) ∧ (n ≠ 0 → EMat true w' (.slice A n c) n (N + 1) R.m) ∧ IntsV w' (.slice A' R.leads.length c') (R.leads.map (fun l : Nat => (l : Int))) ∧ Ext wr w') from by
        have hM : EMat K wr (.slice AW n cW) n C (wide A b N) := by
          by_cases h0 : n = 0
          · subst h0
            rw [HCz.out rfl]
            obtain ⟨a1, a2, a3, a4, a5, a6, a7, a8⟩ := HM.out.mat
            refine ⟨a1, a2, a3, a4, a5, a6, a7, fun j u hu => ?_⟩
            have h1 := (List.getElem?_eq_some_iff.1 hu).1
            have h2 := a7.1
            omega
          · rw [HCn.out h0]; exact HM.out.mat
        refine (mred_n hM hL3 hL HFC.out hn hC9 HCz.out).mono ?_
        rintro e w' ⟨A3, c3, A4, c4, rfl, m1, m2, m3⟩
        have hl : (rrefs (wide A b N) n C).leads = R.leads := by
          by_cases h0 : n = 0
          · subst h0
            rw [len_zero, HR.out, len_zero]
          · rw [HCn.out h0, HR.out]
        rw [hl] at m2 ⊢
        refine ⟨A3, c3, A4, c4, rfl, fun h0 => ?_, m2, m3⟩
        rw [HCn.out h0] at m1
        rw [HR.out]
        exact m1)
      have hRl : R.leads.length ≤ n := by rw [HR.out]; exact (ech _ _ _).len
      clear HM HME
      by_cases hmem : N ∈ R.leads
      · have HMEM := Lib.hid hmem
        have HMM := Lib.hid (show decide ((N : Int) ∈ R.leads.map (fun l : Nat => (l : Int))) = true from decide_eq_true (nat_mem.2 hmem))
        clear hmem
        go_wp2_with (first
          | (go_at_call 42; (with_reducible refine HRD.out.mono ?_); rintro e w5 ⟨A3, c3, A4, c4, rfl, m1, m2, x5⟩)
          | (go_at_call 54; (with_reducible refine (contains_l m2 (by rw [List.length_map]; omega)).mono ?_); rw [HMM.out]; rintro e w6 ⟨rfl, x6⟩))
        go_ret2
        rw [show solN R N = 0 from if_pos HMEM.out, show solE R N = 7 from if_pos HMEM.out]
        exact GivesL.none ⟨rfl, hx.trans (x5.trans x6)⟩
      · have HMEM := Lib.hid hmem
        have HMM := Lib.hid (show decide ((N : Int) ∈ R.leads.map (fun l : Nat => (l : Int))) = false from decide_eq_false (fun h => hmem (nat_mem.1 h)))
        by_cases hlen : R.leads.length < N
        · have hlen' : (R.leads.length : Int) < (N : Int) := by omega
          clear hmem
          go_wp2_with (first
            | (go_at_call 42; (with_reducible refine HRD.out.mono ?_); rintro e w5 ⟨A3, c3, A4, c4, rfl, m1, m2, x5⟩)
            | (go_at_call 54; (with_reducible refine (contains_l m2 (by rw [List.length_map]; omega)).mono ?_); rw [HMM.out]; rintro e w6 ⟨rfl, x6⟩))
          go_ret2
          rw [show solN R N = 0 from by unfold solN; rw [if_neg HMEM.out, if_pos hlen], show solE R N = 9 from by unfold solE; rw [if_neg HMEM.out, if_pos hlen]]
          exact GivesL.none ⟨rfl, hx.trans (x5.trans x6)⟩
        · have HLEN := Lib.hid hlen
          have hlen' : ¬ ((R.leads.length : Int) < (N : Int)) := by omega
          have hNn : N ≤ n := by omega
          clear hmem
          go_wp2_with (first
            | (go_at_call 42; (with_reducible refine HRD.out.mono ?_); rintro e w5 ⟨A3, c3, A4, c4, rfl, m1, m2, x5⟩)
            | (go_at_call 54; (with_reducible refine (contains_l m2 (by rw [List.length_map]; omega)).mono ?_); rw [HMM.out]; rintro e w6 ⟨rfl, x6⟩))
          have X6 : Ext w w6 := hx.trans (x5.trans x6)
          have HME := Lib.hid (fun (h : n ≠ 0) (w' : World) (hw : Ext w6 w') => (m1 h).below (x6.trans hw))
          clear m1 m2
          go_loopw [12, 60] (fun rv iv wr => ∃ (k : Nat) (ts : List Fc), k ≤ N ∧ iv = .int .i64 k ∧ Hid (wr.ownsRow w6.heap.size 34 3 rv k (fcells ts)) ∧ Hid (ts.length = k ∧ ∀ (j : Nat) (t : Fc), ts[j]? = some t → Ent true w6 t.neg t.num t.den (R.m j N)) ∧ Ext w6 wr) (fun _ iv _ => N - (intOf iv).toNat)
          case atStart => exact ⟨0, [], Nat.zero_le _, rfl, Lib.hid (World.ownsRow_nil _ _ _ _), Lib.hid ⟨rfl, by simp⟩, Below.refl _ _⟩
          case round =>
            obtain ⟨k, ts, hk2, rfl, HO, HTS, hy⟩ := hrel
            by_cases hkN : k < N
            · obtain ⟨b', o', A5, cp5, rfl, hb5, hcell, hrow⟩ := (HME.out (by omega) _ (Below.refl _ _)).at_ (k := k) (by omega)
              obtain ⟨b6, o6, ng, D1, p1, d1, D2, p2, d2, rfl, hb6, e0, e1, e2, he⟩ := hrow.at_ (k := N) (by omega)
              have hcell := (hy.cell (p := ⟨b', o' + k, none⟩) hb5).trans hcell
              have e0 := (hy.cell (p := ⟨b6, o6 + N * 3, none⟩) hb6).trans e0
              have e1 := (hy.cell (p := ⟨b6, o6 + N * 3 + 1, none⟩) hb6).trans e1
              have e2 := (hy.cell (p := ⟨b6, o6 + N * 3 + 2, none⟩) hb6).trans e2
              have HE0 := Lib.hid he
              have hi1 : (0 : Int) ≤ (k : Int) := by omega
              have hi2 : (k : Int) < (n : Int) := by omega
              have hi3 : (0 : Int) ≤ (N : Int) := by omega
              have hi4 : (N : Int) < (N : Int) + 1 := by omega
              have hi5 : (k : Int) < (N : Int) := by omega
              have hwN : IntKind.i64.wrap ((N : Int) + 1) = (N : Int) + 1 := wrap_in (by omega)
              clear he hrow
              go_wp2_with (at_builtin; refine wpList_append_mine _ (by rfl) (.tmp 63) (.tmp 71) 39 (by rfl) w6.heap.size 34 i0 (.agg #[.bool false, .slice none 0 0, .slice none 0 0]) 3 56 Try.underlying39 hi hz0 hz1 hz2 rfl (by omega) _ _ _ (by rfl) (HO.out.kept (Ext.grown (ext_alloc (Below.refl _ _) _)) (by cases u12.ownBlock <;> simp)) ⟨wr.heap.size, 0, none⟩ 1 1 [.bool ng, .slice D1 p1 d1, .slice D2 p2 d2] (by rfl) rfl (cell_three wr _ _ _ _) (by simp [Value.oneCell']) (by unfold maxLen; omega) (by omega) (by have := hy.size; simp; omega) ?_; intro v8 w8 ho8 hg8 hw8)
              rw [fcells_snoc ts ⟨ng, .slice D1 p1 d1, .slice D2 p2 d2⟩] at ho8
              have hx8 : Ext w6 w8 := Below.grown (Ext.trans hy (ext_alloc (Below.refl _ _) _)) hg8 (by have := hy.size; simp; omega) fun g hg => (HO.out.lt g hg).1
              have HT8 := Lib.hid (show (ts ++ [(⟨ng, .slice D1 p1 d1, .slice D2 p2 d2⟩ : Fc)]).length = k + 1 ∧ ∀ (j : Nat) (t : Fc), (ts ++ [(⟨ng, .slice D1 p1 d1, .slice D2 p2 d2⟩ : Fc)])[j]? = some t → Ent true w6 t.neg t.num t.den (R.m j N) from ⟨by rw [List.length_append, HTS.out.1]; rfl, snoc_ent (t0 := ⟨ng, .slice D1 p1 d1, .slice D2 p2 d2⟩) (f := fun i => R.m i N) HTS.out.1 HTS.out.2 HE0.out⟩)
              have HO8 := Lib.hid ho8
              clear ho8 hg8 hw8
              go_roundw
              case rel => exact ⟨k + 1, _, by omega, by go_num, HO8, HT8, hx8⟩
              case measure => simp [intOf]; omega
            · obtain rfl : N = k := by omega
              have hkk : ¬ ((N : Int) < (N : Int)) := by omega
              have hE := ownsRow_efs HO.out HTS.out.1 fun j t ht => (HTS.out.2 j t ht).below hy
              obtain ⟨A9, c9, rfl⟩ := own_form HO.out
              go_wp2
              go_ret2
              rw [show solN R N = N from by unfold solN; rw [if_neg HMEM.out, if_neg HLEN.out], show solE R N = 0 from by unfold solE; rw [if_neg HMEM.out, if_neg HLEN.out]]
              exact ⟨_, _, rfl, hE, X6.trans hy⟩

set_option maxHeartbeats 4000000 in
theorem msolve_no {K : Bool} {v x : Value} {ls : List Nat} {m : Nat} {b : Nat → Rat} {w : World} (hv : LMat w v ls) (hx : EFs K w x m b) (hl : ¬ validL ls ∨ m ≠ ls.length) :
    Calls Try.prog 24 #[v, x] w (fun e w' => e = .returned (.tuple #[.slice none 0 0, .int .i64 1]) ∧ Ext w w') := by
  have HVA := Lib.hid (mvalid_l hv)
  obtain ⟨A, cap, rfl, hc1, hc2⟩ := hv.form
  obtain ⟨A0, c0, rfl, hc3, hc4⟩ := hx.form
  clear hv hx
  obtain ⟨b, hb⟩ : ∃ b, b = decide (validL ls) := ⟨_, rfl⟩
  rw [← hb] at HVA
  obtain ⟨c, hc⟩ : ∃ c, c = ls.length := ⟨_, rfl⟩
  rw [← hc] at hl hc1 HVA ⊢
  have hb' : b = true → ((m : Int) != (c : Int)) = true := fun h => by
    rcases hl with hl | hl
    · exact absurd (of_decide_eq_true (hb.symm.trans h)) hl
    · rw [bne_iff_ne]; omega
  clear hb hc hl
  go_enter Try.func24, Try.ntmps24
  cases b with
  | false =>
    clear hb'
    go_wp2_with (go_at_call 21; (with_reducible refine HVA.out.mono ?_); rintro e w1 ⟨rfl, x1⟩)
    go_ret2
    exact ⟨rfl, x1⟩
  | true =>
    have hm := hb' rfl
    have hm' : ¬ (m = c) := by rw [bne_iff_ne] at hm; omega
    clear hb'
    go_wp2_with (go_at_call 21; (with_reducible refine HVA.out.mono ?_); rintro e w1 ⟨rfl, x1⟩)
    go_ret2
    exact ⟨rfl, x1⟩

end Go.Proofs.Ytmfigiifflljpaa
