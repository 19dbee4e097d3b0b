/- The reference's ways. -/
import Derived.Test.YtnedgbebajhcpaaGreatDoorOcU
import Derived.Test.YtnedgbebajhcpaaGreatDoorRFrac0
set_option linter.unusedVariables false
set_option linter.unusedSimpArgs false
set_option maxRecDepth 100000
namespace Go.Proofs.YtnedgbebajhcpaaGreatDoor
open Go.RowKit Num

set_option maxHeartbeats 8000000 in
theorem rways_n {n D : Nat} {w : World} (hn : n ≤ 30) (hD1 : 1 ≤ D) (hD : D ≤ 60) :
    Calls Tryz.prog 73 #[.int .i64 n, .int .i64 D] w (GivesW w (upto_ (occ n D) (n + 1)) (D ^ n)) := by
  obtain ⟨i0, hi, hz0, hz1, hz2⟩ := info_parts info_nat
  go_enter Tryz.func73, Tryz.ntmps73
  go_upto_region 1 with (fail)
  have hB0 : (w.alloc (.cells #[.slice none 0 0] 25)).cell? ⟨w.heap.size, 0, none⟩ = some (.slice none 0 0) := by simp [go_sem]
  have hBf0 : (w.alloc (.cells #[.slice none 0 0] 25)).frozen? ⟨w.heap.size, 0, none⟩ = false := by simp [go_sem]
  have x0 : Ext w (w.alloc (.cells #[.slice none 0 0] 25)) := ext_alloc (Below.refl _ _) _
  have hs0 : w.heap.size + 1 ≤ (w.alloc (.cells #[.slice none 0 0] 25)).heap.size := by simp
  generalize (w.alloc (.cells #[.slice none 0 0] 25)) = W0 at *
  have HR := Lib.hid (fun (w' : World) (h : Ext W0 w') => (⟨(h.cell (p := ⟨w.heap.size, 0, none⟩) (World.block_lt_of_cell? _ _ hB0)).trans hB0, (h.frozen (p := ⟨w.heap.size, 0, none⟩) (World.block_lt_of_cell? _ _ hB0)).trans hBf0⟩ : w'.cell? ⟨w.heap.size, 0, none⟩ = some (.slice none 0 0) ∧ w'.frozen? ⟨w.heap.size, 0, none⟩ = false))
  have r0 := hB0
  have g0 := hBf0
  clear hB0 hBf0
  have HE := Lib.hid x0
  clear x0
  have f0 : Ext W0 W0 := Below.refl _ _
  go_wp2_with fail
  refine (rof_e (m := 1) rfl (by omega)).mono ?_
  rintro e w6 ⟨A6, k6, c6, rfl, h6, y6, n6⟩
  have hlo : W0.heap.size ≤ w6.heap.size := y6.size
  have hO : OutB W0 w6.heap.size W0.heap.size 1 (w6.alloc (.cells #[.slice A6 k6 c6] 25)) := ⟨A6, k6, c6, by simp [go_sem], by simp [go_sem], h6.alloc _, ext_alloc y6 _, n6⟩
  have hlt : w6.heap.size < (w6.alloc (.cells #[.slice A6 k6 c6] 25)).heap.size := by simp
  clear h6 y6 n6
  go_upto_region 2 with (fail)
  generalize w6.alloc (.cells #[.slice A6 k6 c6] 25) = W1 at *
  generalize w6.heap.size = ba at *
  go_wp2_with fail
  refine (rof_e (m := 1) rfl (by omega)).mono ?_
  rintro e w7 ⟨A1, k1, c1, rfl, h1, x1, n1⟩
  have hl2 := (OwnN.lit (e := 25) (base := W1.heap.size) w7 x1.size h1 n1).nats
  have hx1 : Ext W1 (w7.alloc (.cells #[.slice A1 k1 c1] 25)) := ext_alloc x1 _
  obtain ⟨MA, mk, ml, hc, hf, hC, hx, hN⟩ := hO
  have hO : OutB W0 ba W0.heap.size (D ^ 0) (w7.alloc (.cells #[.slice A1 k1 c1] 25)) := ⟨MA, mk, ml, (hx1.cell (p := ⟨ba, 0, none⟩) hlt).trans hc, (hx1.frozen (p := ⟨ba, 0, none⟩) hlt).trans hf, by rw [Nat.pow_zero]; exact hC.below hx1, hx.trans hx1, hN⟩
  clear n1 h1 hc hf hC hx hN
  go_wp2
  generalize w7.alloc (.cells #[.slice A1 k1 c1] 25) = W2 at *
  go_loopw [7, 8] (fun ov iv wr => ∃ (i : Nat) (A : Option Addr) (c : Nat), i ≤ n ∧ iv = .int .i64 i ∧ ov = .slice A (i + 1) c ∧ NatsV W1.heap.size wr (.slice A (i + 1) c) (upto_ (occ i D) (i + 1)) ∧ OutB W0 ba W0.heap.size (D ^ i) wr ∧ New W1.heap.size (.slice A (i + 1) c) ∧ W1.heap.size ≤ wr.heap.size)
    (fun _ iv _ => n - (intOf iv).toNat)
  case atStart => exact ⟨0, _, 1, Nat.zero_le _, by go_num, rfl, hl2, hO, New.at_ x1.size, hx1.size⟩
  case round =>
    clear hl2 hO hx1 x1
    obtain ⟨i, A, c, hin, rfl, rfl, hv, hO, hnw, hsw⟩ := hrel
    by_cases hik : i < n
    · have hw1 : IntKind.i64.wrap ((i : Int) + 2) = (i : Int) + 2 := wrap_in (by omega)
      have hiI : (i : Int) < (n : Int) := by omega
      go_upto_region 7 with (at_make; refine wpList_make_full _ rfl _ _ 89 rfl wr.heap.size 25 i0 (.agg #[.slice none 0 0]) 1 Tryz.underlying89 hi hz0 hz1 _ _ _ _ (i + 2) rfl rfl (by omega) (by omega) ?b1 ?b2 ?b3 ?_)
      case' b1 => rw [hz2]; omega
      case' b2 => unfold maxLen; omega
      case' b3 => exact Nat.le_refl _
      intro w4 hown hgrow
      rw [made_nil] at hown
      have hO4 : OwnN 25 wr.heap.size W1.heap.size w4 (.slice (some ⟨wr.heap.size, 0, none⟩) (i + 2) (i + 2)) (List.replicate (i + 2) (.slice none 0 0)) (upto_ (wrow i D 0) (i + 2)) := by rw [wrow_zero]; exact own_zero hown
      have hb4 : Ext wr w4 := (Below.refl _ _).grown hgrow (Nat.le_refl _) (by simp)
      clear hgrow hown
      obtain ⟨wo, hwo⟩ : ∃ wo : World, wo = wr := ⟨_, rfl⟩
      subst hwo
      have HV := Lib.hid (fun (w' : World) (h : Ext wo w') => hv.ext h)
      obtain ⟨MA, mk, ml, hc, hf, hC, hx, hN⟩ := hO
      have hltw : ba < wo.heap.size := World.block_lt_of_cell? _ _ hc
      have HALL := Lib.hid (fun (w' : World) (h : Ext wo w') => (⟨MA, mk, ml, (h.cell (p := ⟨ba, 0, none⟩) hltw).trans hc, (h.frozen (p := ⟨ba, 0, none⟩) hltw).trans hf, hC.below h, hx.trans h, hN⟩ : OutB W0 ba W0.heap.size (D ^ i) w'))
      clear hc hf hC hx hN hv
      go_wp2
      go_loopw [10] (fun iv wr => ∃ (k : Nat) (us : List Value), k ≤ i + 2 ∧ iv = .int .i64 k ∧ OwnN 25 wo.heap.size W1.heap.size wr (.slice (some ⟨wo.heap.size, 0, none⟩) (i + 2) (i + 2)) us (upto_ (wrow i D k) (i + 2)) ∧ Ext wo wr)
        (fun iv _ => i + 2 - (intOf iv).toNat)
      case atStart => exact ⟨0, _, Nat.zero_le _, rfl, hO4, hb4⟩
      case round =>
        clear hO4 hb4
        obtain ⟨k, us, hk, rfl, hown, hxs⟩ := hrel
        have hw2 := hxs.size
        by_cases hki : k < i + 2
        · obtain ⟨B6, k6', c6', hc6, hf6, hn6, _, _⟩ := hown.at_ (upto_length _ _) (wrow_get (i := i) (D := D) hki)
          have HOWN := Lib.hid hown
          have HO6 := Lib.hid (fun (w' : World) (h : Ext wr w') => (⟨(h.cell (p := ⟨wo.heap.size, k, none⟩) (World.block_lt_of_cell? _ _ hc6)).trans hc6, (h.frozen (p := ⟨wo.heap.size, k, none⟩) (World.block_lt_of_cell? _ _ hc6)).trans hf6⟩ : w'.cell? ⟨wo.heap.size, k, none⟩ = some (.slice B6 k6' c6') ∧ w'.frozen? ⟨wo.heap.size, k, none⟩ = false))
          have hb1 : (k : Int) < (i : Int) + 2 := by omega
          have hb2 : (0 : Int) ≤ (k : Int) := by omega
          have hu1 : IntKind.u64.wrap (k : Int) = (k : Int) := by rw [IntKind.wrap_u64]; omega
          have HXS := Lib.hid hxs
          clear hown hc6 hf6 hn6
          go_wp2_with fail
          refine (rof_e (m := 0) rfl (by omega)).mono ?_
          rintro e w10 ⟨A10, k10, c10, rfl, h10, y10, n10⟩
          have hc : (w10.alloc (.cells #[.slice A10 k10 c10] 25)).cell? ⟨w10.heap.size, 0, none⟩ = some (.slice A10 k10 c10) := by simp [go_sem]
          have hf : (w10.alloc (.cells #[.slice A10 k10 c10] 25)).frozen? ⟨w10.heap.size, 0, none⟩ = false := by simp [go_sem]
          have hbl : wr.heap.size ≤ w10.heap.size := y10.size
          have hC : CanV (w10.alloc (.cells #[.slice A10 k10 c10] 25)) (.slice A10 k10 c10) 0 := h10.alloc _
          have X10 : Ext wr (w10.alloc (.cells #[.slice A10 k10 c10] 25)) := ext_alloc y10 _
          clear h10 y10
          by_cases hke : k ≤ i
          · have hb3 : (k : Int) ≤ (i : Int) := by omega
            go_upto_region 12 with (fail)
            generalize w10.alloc (.cells #[.slice A10 k10 c10] 25) = W10 at *
            generalize w10.heap.size = bx at *
            obtain ⟨ab, ao, A5, k5, c5, rfl, hb5, hc5, hn5, _⟩ := (HV.out _ (HXS.out.trans X10)).pl (k := k) (upto_at (by omega))
            have hlx : bx < W10.heap.size := World.block_lt_of_cell? _ _ hc
            have HCC := Lib.hid (fun (w' : World) (h : Ext W10 w') => (⟨(h.cell (p := ⟨bx, 0, none⟩) hlx).trans hc, (h.frozen (p := ⟨bx, 0, none⟩) hlx).trans hf⟩ : w'.cell? ⟨bx, 0, none⟩ = some (.slice A10 k10 c10) ∧ w'.frozen? ⟨bx, 0, none⟩ = false))
            have HS := Lib.hid (fun (w' : World) (h : Ext W10 w') => ((h.cell (p := ⟨ab, ao + k, none⟩) hb5).trans hc5 : w'.cell? ⟨ab, ao + k, none⟩ = some (.slice A5 k5 c5)))
            have HB1 := Lib.hid (occ_len (n := i) (D := D) (d := k) (by omega) hD)
            have HN5 := Lib.hid (fun (w' : World) (h : Ext W10 w') => (CanV.nat hn5 (by unfold Fit; have := HB1.out; omega)).below h)
            have HB2 := Lib.hid (len_small (x := k) (by omega))
            have hb4 : (k : Int) < (i : Int) + 1 := by omega
            clear hn5 hc5 hb5 hc hf hC
            refine wp_region_G (fun w' => Ext W10 w') [8] (by kernel_rfl) ?_
            have gS : Ext W10 W10.drew := (Below.refl _ _).drew
            refine wpAnyG_take 0 (v := ?_) rfl (by kernel_rfl) (by kernel_rfl) (by kernel_rfl) (by kernel_rfl) (by rfl) (by kernel_rfl) (fun _ _ _ h => h) (by rfl) (fun w' hw' => ?_) gS ?_
            rotate_left
            focus (go_simp; (try with_reducible rfl); done)
            (try simp only [Act.put, List.getElem_toArray, List.getElem_cons_succ, List.getElem_cons_zero, List.setIfInBounds_toArray, List.set_cons_zero, List.set_cons_succ])
            refine wpAnyG_take 1 (v := ?_) rfl (by kernel_rfl) (by kernel_rfl) (by kernel_rfl) (by kernel_rfl) (by rfl) (by kernel_rfl) (fun _ _ _ h => h) (by rfl) (fun w' hw' => ?_) gS ?_
            rotate_left
            focus (go_simp; (try with_reducible rfl); done)
            (try simp only [Act.put, List.getElem_toArray, List.getElem_cons_succ, List.getElem_cons_zero, List.setIfInBounds_toArray, List.set_cons_zero, List.set_cons_succ])
            refine wpAnyG_take 2 (v := ?_) rfl (by kernel_rfl) (by kernel_rfl) (by kernel_rfl) (by kernel_rfl) (by rfl) (by kernel_rfl) (fun _ _ _ h => h) (by rfl) (fun w' hw' => ?_) gS ?_
            rotate_left
            focus (go_simp; (try with_reducible rfl); done)
            (try simp only [Act.put, List.getElem_toArray, List.getElem_cons_succ, List.getElem_cons_zero, List.setIfInBounds_toArray, List.set_cons_zero, List.set_cons_succ])
            refine wpAnyG_take 3 (v := ?_) rfl (by kernel_rfl) (by kernel_rfl) (by kernel_rfl) (by kernel_rfl) (by rfl) (by kernel_rfl) (fun _ _ _ h => h) (by rfl) (fun w' hw' => ?_) gS ?_
            rotate_left
            focus (have hh := HS.out _ hw'; go_split_ands; go_simp; (try with_reducible rfl); done)
            (try simp only [Act.put, List.getElem_toArray, List.getElem_cons_succ, List.getElem_cons_zero, List.setIfInBounds_toArray, List.set_cons_zero, List.set_cons_succ])
            refine wpAnyG_take 4 (v := ?_) rfl (by kernel_rfl) (by kernel_rfl) (by kernel_rfl) (by kernel_rfl) (by rfl) (by kernel_rfl) (fun _ _ _ h => h) (by rfl) (fun w' hw' => ?_) gS ?_
            rotate_left
            focus (go_simp; (try with_reducible rfl); done)
            (try simp only [Act.put, List.getElem_toArray, List.getElem_cons_succ, List.getElem_cons_zero, List.setIfInBounds_toArray, List.set_cons_zero, List.set_cons_succ])
            refine wpAnyG_take 5 (v := ?_) rfl (by kernel_rfl) (by kernel_rfl) (by kernel_rfl) (by kernel_rfl) (by rfl) (by kernel_rfl) (fun _ _ _ h => h) (by rfl) (fun w' hw' => ?_) gS ?_
            rotate_left
            focus (go_simp; (try with_reducible rfl); done)
            (try simp only [Act.put, List.getElem_toArray, List.getElem_cons_succ, List.getElem_cons_zero, List.setIfInBounds_toArray, List.set_cons_zero, List.set_cons_succ])
            refine wpAnyG_one 6 (by kernel_rfl) rfl (by rfl) (fun K hK => ?_)
            go_simp
            go_at_call 84
            refine (rof_e (m := k) (by omega) (by omega)).mono ?_
            rintro e w12 ⟨A12, k12, c12, rfl, h12, x12, n12⟩
            have gS : Ext W10 w12 := Ext.trans gS x12
            (try go_wp2_with fail)
            refine hK.out _ _ (fun _ => gS) ?_
            clear hK K
            (try simp only [Act.put, List.getElem_toArray, List.getElem_cons_succ, List.getElem_cons_zero, List.setIfInBounds_toArray, List.set_cons_zero, List.set_cons_succ])
            refine wpAnyG_one 7 (by kernel_rfl) rfl (by rfl) (fun K hK => ?_)
            go_simp
            go_at_call 59
            refine (rmul_n (HN5.out _ gS) (CanV.nat h12 (fit_small (by omega))) (by have := HB1.out; have := HB2.out; omega)).mono ?_
            rintro e w13 ⟨A13, k13, c13, rfl, h13, x13, n13⟩
            have hg12 := gS.size
            have gS : Ext W10 w13 := Ext.trans gS x13
            obtain ⟨hc, hf⟩ := HCC.out _ gS
            (try go_wp2_with fail)
            refine hK.out _ _ (fun _ => gS) ?_
            clear hK K
            (try simp only [Act.put, List.getElem_toArray, List.getElem_cons_succ, List.getElem_cons_zero, List.setIfInBounds_toArray, List.set_cons_zero, List.set_cons_succ])
            refine wpAnyG_one 8 (by kernel_rfl) rfl (by rfl) (fun K hK => ?_)
            go_simp
            refine hK.out _ _ (fun h => absurd h (by decide)) ?_
            clear hK K
            (try simp only [Act.put, List.getElem_toArray, List.getElem_cons_succ, List.getElem_cons_zero, List.setIfInBounds_toArray, List.set_cons_zero, List.set_cons_succ])
            refine wpAnyG_done (by kernel_rfl) ?_ _
            have hO := OutB.set (B := wr.heap.size) hc hf h13 (X10.trans gS) n13 (by omega) (by omega) hbl
            have hX12 := hO.ext
            obtain ⟨y, hy⟩ : ∃ y, y = occ i D k * k := ⟨_, rfl⟩
            rw [← hy] at hO
            have HY := Lib.hid hy
            clear hy h12 x12 n12 h13 x13 n13 hc hf gS X10
            generalize w13.setCell ⟨bx, 0, none⟩ (.slice A13 k13 c13) = WB at *
            obtain ⟨MX, mkx, mlx, hc, hf, hC, X10, hNx⟩ := hO
            by_cases hk0 : k = 0
            · subst hk0
              rw [show y = occ (i + 1) D 0 from by rw [HY.out, occ_step_zero, Nat.mul_zero]] at hC
              obtain ⟨hc6, hf6⟩ := HO6.out _ X10
              go_wp2
              have hOW := OwnN.write HOWN.out (upto_length _ _) hki X10 hC hNx (Nat.le_trans hsw hw2)
              have xW : Ext wo (WB.setCell ⟨wo.heap.size, 0, none⟩ (.slice MX mkx mlx)) := (HXS.out.trans X10).setCell (p := ⟨wo.heap.size, 0, none⟩) (Nat.le_refl _) _
              skip
              rw [wrow_next] at hOW
              go_roundw
              case rel => exact ⟨0 + 1, _, by omega, by go_num, hOW, xW⟩
              case measure => first | (simp [intOf]; done) | (simp [intOf]; omega)
            · obtain ⟨j, rfl⟩ : ∃ j, k = j + 1 := ⟨k - 1, by omega⟩
              have hv0 : (0 : Int) ≤ (j : Int) := by omega
              have hv5 : (0 : Int) < (j : Int) + 1 := by omega
              by_cases hjD : j + 1 ≤ D
              · have hjD' : (j : Int) + 1 ≤ (D : Int) := by omega
                obtain ⟨x, hx'⟩ : ∃ x, x = D - j := ⟨_, rfl⟩
                have hv1 : IntKind.i64.wrap ((j : Int) + 1 - 1) = (j : Int) := by rw [wrap_in (by omega)]; omega
                have hv1' : IntKind.i64.wrap (j : Int) = (j : Int) := wrap_in (by omega)
                have hv2 : IntKind.i64.wrap ((D : Int) - ((j : Int) + 1)) = (D : Int) - ((j : Int) + 1) := wrap_in (by omega)
                have hv3 : IntKind.i64.wrap ((D : Int) - ((j : Int) + 1) + 1) = (x : Int) := by rw [wrap_in (by omega)]; omega
                have hv4 : IntKind.u64.wrap (x : Int) = (x : Int) := by rw [IntKind.wrap_u64]; omega
                have hv6 : (j : Int) < (i : Int) + 1 := by omega
                have hxs1 : x ≤ 60 := by omega
                have HST := Lib.hid (show occ (i + 1) D (j + 1) = y + occ i D j * x from by rw [HY.out, hx']; exact occ_step i D j)
                clear hx'
                go_upto_region 14 with (fail)
                obtain ⟨ab, ao, A5, k5, c5, he5, hb5, hc5, hn5, _⟩ := (HV.out _ (HXS.out.trans X10)).pl (k := j) (upto_at (by omega))
                first | (injection he5 with he5; injection he5 with he5a he5b; subst he5a he5b) | subst he5
                have hlx : bx < WB.heap.size := World.block_lt_of_cell? _ _ hc
                have HCC := Lib.hid (fun (w' : World) (h : Ext WB w') => (⟨(h.cell (p := ⟨bx, 0, none⟩) hlx).trans hc, (h.frozen (p := ⟨bx, 0, none⟩) hlx).trans hf⟩ : w'.cell? ⟨bx, 0, none⟩ = some (.slice MX mkx mlx) ∧ w'.frozen? ⟨bx, 0, none⟩ = false))
                have HS := Lib.hid (fun (w' : World) (h : Ext WB w') => (⟨(HCC.out w' h).1, (h.cell (p := ⟨_, _, none⟩) hb5).trans hc5⟩ : w'.cell? ⟨bx, 0, none⟩ = some (.slice MX mkx mlx) ∧ w'.cell? ⟨_, _, none⟩ = some (.slice A5 k5 c5)))
                have HB1 := Lib.hid (occ_len (n := i) (D := D) (d := j) (by omega) hD)
                have HB3 := Lib.hid (occ_len (n := i) (D := D) (d := j + 1) (by omega) hD)
                have HB2 := Lib.hid (len_small (x := x) (by omega))
                have HB4 := Lib.hid (len_small (x := j + 1) (by omega))
                have HYL := Lib.hid (show (limbsOf y).length ≤ 40 from by rw [HY.out]; have h3 := limbsOf_length_mul (occ i D (j + 1)) (j + 1); have := HB3.out; have := HB4.out; omega)
                have HN5 := Lib.hid (fun (w' : World) (h : Ext WB w') => (CanV.nat hn5 (by unfold Fit; have := HB1.out; omega)).below h)
                have HNY := Lib.hid (fun (w' : World) (h : Ext WB w') => (CanV.nat hC (by unfold Fit; have := HYL.out; omega)).below h)
                clear hn5 hc5 hb5 hc hf hC hNx
                refine wp_region_G (fun w' => Ext WB w') [14] (by kernel_rfl) ?_
                have gS : Ext WB WB.drew := (Below.refl _ _).drew
                refine wpAnyG_take 0 (v := ?_) rfl (by kernel_rfl) (by kernel_rfl) (by kernel_rfl) (by kernel_rfl) (by rfl) (by kernel_rfl) (fun _ _ _ h => h) (by rfl) (fun w' hw' => ?_) gS ?_
                rotate_left
                focus (have hh := HS.out _ hw'; go_split_ands; go_simp; (try with_reducible rfl); done)
                (try simp only [Act.put, List.getElem_toArray, List.getElem_cons_succ, List.getElem_cons_zero, List.setIfInBounds_toArray, List.set_cons_zero, List.set_cons_succ])
                refine wpAnyG_take 1 (v := ?_) rfl (by kernel_rfl) (by kernel_rfl) (by kernel_rfl) (by kernel_rfl) (by rfl) (by kernel_rfl) (fun _ _ _ h => h) (by rfl) (fun w' hw' => ?_) gS ?_
                rotate_left
                focus (go_simp; (try with_reducible rfl); done)
                (try simp only [Act.put, List.getElem_toArray, List.getElem_cons_succ, List.getElem_cons_zero, List.setIfInBounds_toArray, List.set_cons_zero, List.set_cons_succ])
                refine wpAnyG_take 2 (v := ?_) rfl (by kernel_rfl) (by kernel_rfl) (by kernel_rfl) (by kernel_rfl) (by rfl) (by kernel_rfl) (fun _ _ _ h => h) (by rfl) (fun w' hw' => ?_) gS ?_
                rotate_left
                focus (go_simp; (try with_reducible rfl); done)
                (try simp only [Act.put, List.getElem_toArray, List.getElem_cons_succ, List.getElem_cons_zero, List.setIfInBounds_toArray, List.set_cons_zero, List.set_cons_succ])
                refine wpAnyG_take 3 (v := ?_) rfl (by kernel_rfl) (by kernel_rfl) (by kernel_rfl) (by kernel_rfl) (by rfl) (by kernel_rfl) (fun _ _ _ h => h) (by rfl) (fun w' hw' => ?_) gS ?_
                rotate_left
                focus (go_simp; (try with_reducible rfl); done)
                (try simp only [Act.put, List.getElem_toArray, List.getElem_cons_succ, List.getElem_cons_zero, List.setIfInBounds_toArray, List.set_cons_zero, List.set_cons_succ])
                refine wpAnyG_take 4 (v := ?_) rfl (by kernel_rfl) (by kernel_rfl) (by kernel_rfl) (by kernel_rfl) (by rfl) (by kernel_rfl) (fun _ _ _ h => h) (by rfl) (fun w' hw' => ?_) gS ?_
                rotate_left
                focus (go_simp; (try with_reducible rfl); done)
                (try simp only [Act.put, List.getElem_toArray, List.getElem_cons_succ, List.getElem_cons_zero, List.setIfInBounds_toArray, List.set_cons_zero, List.set_cons_succ])
                refine wpAnyG_take 5 (v := ?_) rfl (by kernel_rfl) (by kernel_rfl) (by kernel_rfl) (by kernel_rfl) (by rfl) (by kernel_rfl) (fun _ _ _ h => h) (by rfl) (fun w' hw' => ?_) gS ?_
                rotate_left
                focus (have hh := HS.out _ hw'; go_split_ands; go_simp; (try with_reducible rfl); done)
                (try simp only [Act.put, List.getElem_toArray, List.getElem_cons_succ, List.getElem_cons_zero, List.setIfInBounds_toArray, List.set_cons_zero, List.set_cons_succ])
                refine wpAnyG_take 6 (v := ?_) rfl (by kernel_rfl) (by kernel_rfl) (by kernel_rfl) (by kernel_rfl) (by rfl) (by kernel_rfl) (fun _ _ _ h => h) (by rfl) (fun w' hw' => ?_) gS ?_
                rotate_left
                focus (go_simp; (try with_reducible rfl); done)
                (try simp only [Act.put, List.getElem_toArray, List.getElem_cons_succ, List.getElem_cons_zero, List.setIfInBounds_toArray, List.set_cons_zero, List.set_cons_succ])
                refine wpAnyG_take 7 (v := ?_) rfl (by kernel_rfl) (by kernel_rfl) (by kernel_rfl) (by kernel_rfl) (by rfl) (by kernel_rfl) (fun _ _ _ h => h) (by rfl) (fun w' hw' => ?_) gS ?_
                rotate_left
                focus (go_simp; (try with_reducible rfl); done)
                (try simp only [Act.put, List.getElem_toArray, List.getElem_cons_succ, List.getElem_cons_zero, List.setIfInBounds_toArray, List.set_cons_zero, List.set_cons_succ])
                refine wpAnyG_take 8 (v := ?_) rfl (by kernel_rfl) (by kernel_rfl) (by kernel_rfl) (by kernel_rfl) (by rfl) (by kernel_rfl) (fun _ _ _ h => h) (by rfl) (fun w' hw' => ?_) gS ?_
                rotate_left
                focus (go_simp; (try with_reducible rfl); done)
                (try simp only [Act.put, List.getElem_toArray, List.getElem_cons_succ, List.getElem_cons_zero, List.setIfInBounds_toArray, List.set_cons_zero, List.set_cons_succ])
                refine wpAnyG_take 9 (v := ?_) rfl (by kernel_rfl) (by kernel_rfl) (by kernel_rfl) (by kernel_rfl) (by rfl) (by kernel_rfl) (fun _ _ _ h => h) (by rfl) (fun w' hw' => ?_) gS ?_
                rotate_left
                focus (go_simp; (try with_reducible rfl); done)
                (try simp only [Act.put, List.getElem_toArray, List.getElem_cons_succ, List.getElem_cons_zero, List.setIfInBounds_toArray, List.set_cons_zero, List.set_cons_succ])
                refine wpAnyG_take 10 (v := ?_) rfl (by kernel_rfl) (by kernel_rfl) (by kernel_rfl) (by kernel_rfl) (by rfl) (by kernel_rfl) (fun _ _ _ h => h) (by rfl) (fun w' hw' => ?_) gS ?_
                rotate_left
                focus (go_simp; (try with_reducible rfl); done)
                (try simp only [Act.put, List.getElem_toArray, List.getElem_cons_succ, List.getElem_cons_zero, List.setIfInBounds_toArray, List.set_cons_zero, List.set_cons_succ])
                refine wpAnyG_one 11 (by kernel_rfl) rfl (by rfl) (fun K hK => ?_)
                (try simp only [List.getElem_toArray, List.getElem_cons_succ, List.getElem_cons_zero])
                go_simp
                go_at_call 84
                refine (rof_e (m := x) (by omega) (by omega)).mono ?_
                rintro e w14 ⟨A14, k14, c14, rfl, h14, x14, n14⟩
                have gS : Ext WB w14 := Ext.trans gS x14
                (try go_wp2_with fail)
                refine hK.out _ _ (fun _ => gS) ?_
                clear hK K
                (try simp only [Act.put, List.getElem_toArray, List.getElem_cons_succ, List.getElem_cons_zero, List.setIfInBounds_toArray, List.set_cons_zero, List.set_cons_succ])
                refine wpAnyG_one 12 (by kernel_rfl) rfl (by rfl) (fun K hK => ?_)
                (try simp only [List.getElem_toArray, List.getElem_cons_succ, List.getElem_cons_zero])
                go_simp
                go_at_call 59
                refine (rmul_n (HN5.out _ gS) (CanV.nat h14 (fit_small (by omega))) (by have := HB1.out; have := HB2.out; omega)).mono ?_
                rintro e w15 ⟨A15, k15, c15, rfl, h15, x15, n15⟩
                have gS : Ext WB w15 := Ext.trans gS x15
                (try go_wp2_with fail)
                refine hK.out _ _ (fun _ => gS) ?_
                clear hK K
                (try simp only [Act.put, List.getElem_toArray, List.getElem_cons_succ, List.getElem_cons_zero, List.setIfInBounds_toArray, List.set_cons_zero, List.set_cons_succ])
                refine wpAnyG_one 13 (by kernel_rfl) rfl (by rfl) (fun K hK => ?_)
                (try simp only [List.getElem_toArray, List.getElem_cons_succ, List.getElem_cons_zero])
                go_simp
                go_at_call 60
                refine (radd_n (HNY.out _ gS) (CanV.nat h15 (by unfold Fit; have h3 := limbsOf_length_mul (occ i D j) x; have := HB1.out; have := HB2.out; omega)) (by have := HYL.out; omega) (by have h3 := limbsOf_length_mul (occ i D j) x; have := HB1.out; have := HB2.out; omega)).mono ?_
                rintro e w16 ⟨A16, k16, c16, rfl, h16, x16, n16⟩
                have hg12 := gS.size
                have gS : Ext WB w16 := Ext.trans gS x16
                obtain ⟨hc, hf⟩ := HCC.out _ gS
                have hX10s := X10.size
                (try go_wp2_with fail)
                refine hK.out _ _ (fun _ => gS) ?_
                clear hK K
                (try simp only [Act.put, List.getElem_toArray, List.getElem_cons_succ, List.getElem_cons_zero, List.setIfInBounds_toArray, List.set_cons_zero, List.set_cons_succ])
                refine wpAnyG_one 14 (by kernel_rfl) rfl (by rfl) (fun K hK => ?_)
                (try simp only [List.getElem_toArray, List.getElem_cons_succ, List.getElem_cons_zero])
                go_simp
                refine hK.out _ _ (fun h => absurd h (by decide)) ?_
                clear hK K
                (try simp only [Act.put, List.getElem_toArray, List.getElem_cons_succ, List.getElem_cons_zero, List.setIfInBounds_toArray, List.set_cons_zero, List.set_cons_succ])
                refine wpAnyG_done (by kernel_rfl) ?_ _
                have hO := OutB.set (B := wr.heap.size) hc hf h16 (X10.trans gS) n16 (by omega) (by omega) hbl
                rw [← HST.out] at hO
                clear h14 x14 n14 h15 x15 n15 h16 x16 n16 hc hf gS X10 hX10s hg12
                generalize w16.setCell ⟨bx, 0, none⟩ (.slice A16 k16 c16) = WC at *
                obtain ⟨MX, mkx, mlx, hc, hf, hC, X10, hNx⟩ := hO
                obtain ⟨hc6, hf6⟩ := HO6.out _ X10
                go_wp2
                have hOW := OwnN.write HOWN.out (upto_length _ _) hki X10 hC hNx (Nat.le_trans hsw hw2)
                have xW : Ext wo (WC.setCell ⟨wo.heap.size, (j + 1), none⟩ (.slice MX mkx mlx)) := (HXS.out.trans X10).setCell (p := ⟨wo.heap.size, (j + 1), none⟩) (Nat.le_refl _) _
                skip
                rw [wrow_next] at hOW
                go_roundw
                case rel => exact ⟨(j + 1) + 1, _, by omega, by go_num, hOW, xW⟩
                case measure => first | (simp [intOf]; done) | (simp [intOf]; omega)
              · have hjD' : ¬ ((j : Int) + 1 ≤ (D : Int)) := by omega
                have HST := Lib.hid (show occ (i + 1) D (j + 1) = y from by rw [HY.out, occ_step, show D - j = 0 from by omega, Nat.mul_zero, Nat.add_zero])
                rw [← HST.out] at hC
                obtain ⟨hc6, hf6⟩ := HO6.out _ X10
                go_wp2
                have hOW := OwnN.write HOWN.out (upto_length _ _) hki X10 hC hNx (Nat.le_trans hsw hw2)
                have xW : Ext wo (WB.setCell ⟨wo.heap.size, (j + 1), none⟩ (.slice MX mkx mlx)) := (HXS.out.trans X10).setCell (p := ⟨wo.heap.size, (j + 1), none⟩) (Nat.le_refl _) _
                skip
                rw [wrow_next] at hOW
                go_roundw
                case rel => exact ⟨(j + 1) + 1, _, by omega, by go_num, hOW, xW⟩
                case measure => first | (simp [intOf]; done) | (simp [intOf]; omega)
          · obtain ⟨j, rfl⟩ : ∃ j, k = j + 1 := ⟨k - 1, by omega⟩
            have hb3 : ¬ ((j : Int) + 1 ≤ (i : Int)) := by omega
            go_upto_region 13 with (fail)
            generalize w10.alloc (.cells #[.slice A10 k10 c10] 25) = WB at *
            generalize w10.heap.size = bx at *
            obtain ⟨y, hy⟩ : ∃ y, y = 0 := ⟨_, rfl⟩
            rw [← hy] at hC
            have HY := Lib.hid (show y = occ i D (j + 1) * (j + 1) from by rw [hy, occ_gt (.inl (by omega)), Nat.zero_mul])
            clear hy
            have hNx : New wr.heap.size (.slice A10 k10 c10) := n10
            clear n10
            have hv0 : (0 : Int) ≤ (j : Int) := by omega
            have hv5 : (0 : Int) < (j : Int) + 1 := by omega
            by_cases hjD : j + 1 ≤ D
            · have hjD' : (j : Int) + 1 ≤ (D : Int) := by omega
              obtain ⟨x, hx'⟩ : ∃ x, x = D - j := ⟨_, rfl⟩
              have hv1 : IntKind.i64.wrap ((j : Int) + 1 - 1) = (j : Int) := by rw [wrap_in (by omega)]; omega
              have hv1' : IntKind.i64.wrap (j : Int) = (j : Int) := wrap_in (by omega)
              have hv2 : IntKind.i64.wrap ((D : Int) - ((j : Int) + 1)) = (D : Int) - ((j : Int) + 1) := wrap_in (by omega)
              have hv3 : IntKind.i64.wrap ((D : Int) - ((j : Int) + 1) + 1) = (x : Int) := by rw [wrap_in (by omega)]; omega
              have hv4 : IntKind.u64.wrap (x : Int) = (x : Int) := by rw [IntKind.wrap_u64]; omega
              have hv6 : (j : Int) < (i : Int) + 1 := by omega
              have hxs1 : x ≤ 60 := by omega
              have HST := Lib.hid (show occ (i + 1) D (j + 1) = y + occ i D j * x from by rw [HY.out, hx']; exact occ_step i D j)
              clear hx'
              go_upto_region 14 with (fail)
              obtain ⟨ab, ao, A5, k5, c5, he5, hb5, hc5, hn5, _⟩ := (HV.out _ (HXS.out.trans X10)).pl (k := j) (upto_at (by omega))
              first | (injection he5 with he5; injection he5 with he5a he5b; subst he5a he5b) | subst he5
              have hlx : bx < WB.heap.size := World.block_lt_of_cell? _ _ hc
              have HCC := Lib.hid (fun (w' : World) (h : Ext WB w') => (⟨(h.cell (p := ⟨bx, 0, none⟩) hlx).trans hc, (h.frozen (p := ⟨bx, 0, none⟩) hlx).trans hf⟩ : w'.cell? ⟨bx, 0, none⟩ = some (.slice A10 k10 c10) ∧ w'.frozen? ⟨bx, 0, none⟩ = false))
              have HS := Lib.hid (fun (w' : World) (h : Ext WB w') => (⟨(HCC.out w' h).1, (h.cell (p := ⟨_, _, none⟩) hb5).trans hc5⟩ : w'.cell? ⟨bx, 0, none⟩ = some (.slice A10 k10 c10) ∧ w'.cell? ⟨_, _, none⟩ = some (.slice A5 k5 c5)))
              have HB1 := Lib.hid (occ_len (n := i) (D := D) (d := j) (by omega) hD)
              have HB3 := Lib.hid (occ_len (n := i) (D := D) (d := j + 1) (by omega) hD)
              have HB2 := Lib.hid (len_small (x := x) (by omega))
              have HB4 := Lib.hid (len_small (x := j + 1) (by omega))
              have HYL := Lib.hid (show (limbsOf y).length ≤ 40 from by rw [HY.out]; have h3 := limbsOf_length_mul (occ i D (j + 1)) (j + 1); have := HB3.out; have := HB4.out; omega)
              have HN5 := Lib.hid (fun (w' : World) (h : Ext WB w') => (CanV.nat hn5 (by unfold Fit; have := HB1.out; omega)).below h)
              have HNY := Lib.hid (fun (w' : World) (h : Ext WB w') => (CanV.nat hC (by unfold Fit; have := HYL.out; omega)).below h)
              clear hn5 hc5 hb5 hc hf hC hNx
              refine wp_region_G (fun w' => Ext WB w') [14] (by kernel_rfl) ?_
              have gS : Ext WB WB.drew := (Below.refl _ _).drew
              refine wpAnyG_take 0 (v := ?_) rfl (by kernel_rfl) (by kernel_rfl) (by kernel_rfl) (by kernel_rfl) (by rfl) (by kernel_rfl) (fun _ _ _ h => h) (by rfl) (fun w' hw' => ?_) gS ?_
              rotate_left
              focus (have hh := HS.out _ hw'; go_split_ands; go_simp; (try with_reducible rfl); done)
              (try simp only [Act.put, List.getElem_toArray, List.getElem_cons_succ, List.getElem_cons_zero, List.setIfInBounds_toArray, List.set_cons_zero, List.set_cons_succ])
              refine wpAnyG_take 1 (v := ?_) rfl (by kernel_rfl) (by kernel_rfl) (by kernel_rfl) (by kernel_rfl) (by rfl) (by kernel_rfl) (fun _ _ _ h => h) (by rfl) (fun w' hw' => ?_) gS ?_
              rotate_left
              focus (go_simp; (try with_reducible rfl); done)
              (try simp only [Act.put, List.getElem_toArray, List.getElem_cons_succ, List.getElem_cons_zero, List.setIfInBounds_toArray, List.set_cons_zero, List.set_cons_succ])
              refine wpAnyG_take 2 (v := ?_) rfl (by kernel_rfl) (by kernel_rfl) (by kernel_rfl) (by kernel_rfl) (by rfl) (by kernel_rfl) (fun _ _ _ h => h) (by rfl) (fun w' hw' => ?_) gS ?_
              rotate_left
              focus (go_simp; (try with_reducible rfl); done)
              (try simp only [Act.put, List.getElem_toArray, List.getElem_cons_succ, List.getElem_cons_zero, List.setIfInBounds_toArray, List.set_cons_zero, List.set_cons_succ])
              refine wpAnyG_take 3 (v := ?_) rfl (by kernel_rfl) (by kernel_rfl) (by kernel_rfl) (by kernel_rfl) (by rfl) (by kernel_rfl) (fun _ _ _ h => h) (by rfl) (fun w' hw' => ?_) gS ?_
              rotate_left
              focus (go_simp; (try with_reducible rfl); done)
              (try simp only [Act.put, List.getElem_toArray, List.getElem_cons_succ, List.getElem_cons_zero, List.setIfInBounds_toArray, List.set_cons_zero, List.set_cons_succ])
              refine wpAnyG_take 4 (v := ?_) rfl (by kernel_rfl) (by kernel_rfl) (by kernel_rfl) (by kernel_rfl) (by rfl) (by kernel_rfl) (fun _ _ _ h => h) (by rfl) (fun w' hw' => ?_) gS ?_
              rotate_left
              focus (go_simp; (try with_reducible rfl); done)
              (try simp only [Act.put, List.getElem_toArray, List.getElem_cons_succ, List.getElem_cons_zero, List.setIfInBounds_toArray, List.set_cons_zero, List.set_cons_succ])
              refine wpAnyG_take 5 (v := ?_) rfl (by kernel_rfl) (by kernel_rfl) (by kernel_rfl) (by kernel_rfl) (by rfl) (by kernel_rfl) (fun _ _ _ h => h) (by rfl) (fun w' hw' => ?_) gS ?_
              rotate_left
              focus (have hh := HS.out _ hw'; go_split_ands; go_simp; (try with_reducible rfl); done)
              (try simp only [Act.put, List.getElem_toArray, List.getElem_cons_succ, List.getElem_cons_zero, List.setIfInBounds_toArray, List.set_cons_zero, List.set_cons_succ])
              refine wpAnyG_take 6 (v := ?_) rfl (by kernel_rfl) (by kernel_rfl) (by kernel_rfl) (by kernel_rfl) (by rfl) (by kernel_rfl) (fun _ _ _ h => h) (by rfl) (fun w' hw' => ?_) gS ?_
              rotate_left
              focus (go_simp; (try with_reducible rfl); done)
              (try simp only [Act.put, List.getElem_toArray, List.getElem_cons_succ, List.getElem_cons_zero, List.setIfInBounds_toArray, List.set_cons_zero, List.set_cons_succ])
              refine wpAnyG_take 7 (v := ?_) rfl (by kernel_rfl) (by kernel_rfl) (by kernel_rfl) (by kernel_rfl) (by rfl) (by kernel_rfl) (fun _ _ _ h => h) (by rfl) (fun w' hw' => ?_) gS ?_
              rotate_left
              focus (go_simp; (try with_reducible rfl); done)
              (try simp only [Act.put, List.getElem_toArray, List.getElem_cons_succ, List.getElem_cons_zero, List.setIfInBounds_toArray, List.set_cons_zero, List.set_cons_succ])
              refine wpAnyG_take 8 (v := ?_) rfl (by kernel_rfl) (by kernel_rfl) (by kernel_rfl) (by kernel_rfl) (by rfl) (by kernel_rfl) (fun _ _ _ h => h) (by rfl) (fun w' hw' => ?_) gS ?_
              rotate_left
              focus (go_simp; (try with_reducible rfl); done)
              (try simp only [Act.put, List.getElem_toArray, List.getElem_cons_succ, List.getElem_cons_zero, List.setIfInBounds_toArray, List.set_cons_zero, List.set_cons_succ])
              refine wpAnyG_take 9 (v := ?_) rfl (by kernel_rfl) (by kernel_rfl) (by kernel_rfl) (by kernel_rfl) (by rfl) (by kernel_rfl) (fun _ _ _ h => h) (by rfl) (fun w' hw' => ?_) gS ?_
              rotate_left
              focus (go_simp; (try with_reducible rfl); done)
              (try simp only [Act.put, List.getElem_toArray, List.getElem_cons_succ, List.getElem_cons_zero, List.setIfInBounds_toArray, List.set_cons_zero, List.set_cons_succ])
              refine wpAnyG_take 10 (v := ?_) rfl (by kernel_rfl) (by kernel_rfl) (by kernel_rfl) (by kernel_rfl) (by rfl) (by kernel_rfl) (fun _ _ _ h => h) (by rfl) (fun w' hw' => ?_) gS ?_
              rotate_left
              focus (go_simp; (try with_reducible rfl); done)
              (try simp only [Act.put, List.getElem_toArray, List.getElem_cons_succ, List.getElem_cons_zero, List.setIfInBounds_toArray, List.set_cons_zero, List.set_cons_succ])
              refine wpAnyG_one 11 (by kernel_rfl) rfl (by rfl) (fun K hK => ?_)
              (try simp only [List.getElem_toArray, List.getElem_cons_succ, List.getElem_cons_zero])
              go_simp
              go_at_call 84
              refine (rof_e (m := x) (by omega) (by omega)).mono ?_
              rintro e w14 ⟨A14, k14, c14, rfl, h14, x14, n14⟩
              have gS : Ext WB w14 := Ext.trans gS x14
              (try go_wp2_with fail)
              refine hK.out _ _ (fun _ => gS) ?_
              clear hK K
              (try simp only [Act.put, List.getElem_toArray, List.getElem_cons_succ, List.getElem_cons_zero, List.setIfInBounds_toArray, List.set_cons_zero, List.set_cons_succ])
              refine wpAnyG_one 12 (by kernel_rfl) rfl (by rfl) (fun K hK => ?_)
              (try simp only [List.getElem_toArray, List.getElem_cons_succ, List.getElem_cons_zero])
              go_simp
              go_at_call 59
              refine (rmul_n (HN5.out _ gS) (CanV.nat h14 (fit_small (by omega))) (by have := HB1.out; have := HB2.out; omega)).mono ?_
              rintro e w15 ⟨A15, k15, c15, rfl, h15, x15, n15⟩
              have gS : Ext WB w15 := Ext.trans gS x15
              (try go_wp2_with fail)
              refine hK.out _ _ (fun _ => gS) ?_
              clear hK K
              (try simp only [Act.put, List.getElem_toArray, List.getElem_cons_succ, List.getElem_cons_zero, List.setIfInBounds_toArray, List.set_cons_zero, List.set_cons_succ])
              refine wpAnyG_one 13 (by kernel_rfl) rfl (by rfl) (fun K hK => ?_)
              (try simp only [List.getElem_toArray, List.getElem_cons_succ, List.getElem_cons_zero])
              go_simp
              go_at_call 60
              refine (radd_n (HNY.out _ gS) (CanV.nat h15 (by unfold Fit; have h3 := limbsOf_length_mul (occ i D j) x; have := HB1.out; have := HB2.out; omega)) (by have := HYL.out; omega) (by have h3 := limbsOf_length_mul (occ i D j) x; have := HB1.out; have := HB2.out; omega)).mono ?_
              rintro e w16 ⟨A16, k16, c16, rfl, h16, x16, n16⟩
              have hg12 := gS.size
              have gS : Ext WB w16 := Ext.trans gS x16
              obtain ⟨hc, hf⟩ := HCC.out _ gS
              have hX10s := X10.size
              (try go_wp2_with fail)
              refine hK.out _ _ (fun _ => gS) ?_
              clear hK K
              (try simp only [Act.put, List.getElem_toArray, List.getElem_cons_succ, List.getElem_cons_zero, List.setIfInBounds_toArray, List.set_cons_zero, List.set_cons_succ])
              refine wpAnyG_one 14 (by kernel_rfl) rfl (by rfl) (fun K hK => ?_)
              (try simp only [List.getElem_toArray, List.getElem_cons_succ, List.getElem_cons_zero])
              go_simp
              refine hK.out _ _ (fun h => absurd h (by decide)) ?_
              clear hK K
              (try simp only [Act.put, List.getElem_toArray, List.getElem_cons_succ, List.getElem_cons_zero, List.setIfInBounds_toArray, List.set_cons_zero, List.set_cons_succ])
              refine wpAnyG_done (by kernel_rfl) ?_ _
              have hO := OutB.set (B := wr.heap.size) hc hf h16 (X10.trans gS) n16 (by omega) (by omega) hbl
              rw [← HST.out] at hO
              clear h14 x14 n14 h15 x15 n15 h16 x16 n16 hc hf gS X10 hX10s hg12
              generalize w16.setCell ⟨bx, 0, none⟩ (.slice A16 k16 c16) = WC at *
              obtain ⟨MX, mkx, mlx, hc, hf, hC, X10, hNx⟩ := hO
              obtain ⟨hc6, hf6⟩ := HO6.out _ X10
              go_wp2
              have hOW := OwnN.write HOWN.out (upto_length _ _) hki X10 hC hNx (Nat.le_trans hsw hw2)
              have xW : Ext wo (WC.setCell ⟨wo.heap.size, (j + 1), none⟩ (.slice MX mkx mlx)) := (HXS.out.trans X10).setCell (p := ⟨wo.heap.size, (j + 1), none⟩) (Nat.le_refl _) _
              skip
              rw [wrow_next] at hOW
              go_roundw
              case rel => exact ⟨(j + 1) + 1, _, by omega, by go_num, hOW, xW⟩
              case measure => first | (simp [intOf]; done) | (simp [intOf]; omega)
            · have hjD' : ¬ ((j : Int) + 1 ≤ (D : Int)) := by omega
              have HST := Lib.hid (show occ (i + 1) D (j + 1) = y from by rw [HY.out, occ_step, show D - j = 0 from by omega, Nat.mul_zero, Nat.add_zero])
              rw [← HST.out] at hC
              obtain ⟨hc6, hf6⟩ := HO6.out _ X10
              go_wp2
              have hOW := OwnN.write HOWN.out (upto_length _ _) hki X10 hC hNx (Nat.le_trans hsw hw2)
              have xW : Ext wo (WB.setCell ⟨wo.heap.size, (j + 1), none⟩ (.slice A10 k10 c10)) := (HXS.out.trans X10).setCell (p := ⟨wo.heap.size, (j + 1), none⟩) (Nat.le_refl _) _
              skip
              rw [wrow_next] at hOW
              go_roundw
              case rel => exact ⟨(j + 1) + 1, _, by omega, by go_num, hOW, xW⟩
              case measure => first | (simp [intOf]; done) | (simp [intOf]; omega)
        · obtain rfl : k = i + 2 := by omega
          have hb1 : ¬ ((i : Int) + 2 < (i : Int) + 2) := by omega
          have hN := hown.nats
          rw [wrow_all] at hN
          have hAL := HALL.out _ hxs
          have hw1' : IntKind.i64.wrap ((i : Int) + 1) = (i : Int) + 1 := wrap_in (by omega)
          have hu1 : IntKind.u64.wrap (D : Int) = (D : Int) := by rw [IntKind.wrap_u64]; omega
          have HV2 := Lib.hid (fun (w' : World) (h : Ext wr w') => hN.ext h)
          obtain ⟨MA, mk, ml, hc, hf, hC, hx, hNN⟩ := hAL
          have hlx : ba < wr.heap.size := World.block_lt_of_cell? _ _ hc
          have HCC := Lib.hid (fun (w' : World) (h : Ext wr w') => (⟨(h.cell (p := ⟨ba, 0, none⟩) hlx).trans hc, (h.frozen (p := ⟨ba, 0, none⟩) hlx).trans hf⟩ : w'.cell? ⟨ba, 0, none⟩ = some (.slice MA mk ml) ∧ w'.frozen? ⟨ba, 0, none⟩ = false))
          have HS := Lib.hid (fun (w' : World) (h : Ext wr w') => (HCC.out w' h).1)
          have HL3 := Lib.hid (all_small (n := i) (D := D) (by omega) hD)
          have HB2 := Lib.hid (len_small (x := D) (by omega))
          have HNA := Lib.hid (fun (w' : World) (h : Ext wr w') => (CanV.nat hC (by unfold Fit; have := HL3.out; omega)).below h)
          clear hown hN hc hf hC hnw
          go_upto_region 17 with (fail)
          refine wp_region_G (fun w' => Ext wr w') [5] (by kernel_rfl) ?_
          have gS : Ext wr wr.drew := (Below.refl _ _).drew
          refine wpAnyG_take 0 (v := ?_) rfl (by kernel_rfl) (by kernel_rfl) (by kernel_rfl) (by kernel_rfl) (by rfl) (by kernel_rfl) (fun _ _ _ h => h) (by rfl) (fun w' hw' => ?_) gS ?_
          rotate_left
          focus (have hh := HS.out _ hw'; go_split_ands; go_simp; (try with_reducible rfl); done)
          (try simp only [Act.put, List.getElem_toArray, List.getElem_cons_succ, List.getElem_cons_zero, List.setIfInBounds_toArray, List.set_cons_zero, List.set_cons_succ])
          refine wpAnyG_take 1 (v := ?_) rfl (by kernel_rfl) (by kernel_rfl) (by kernel_rfl) (by kernel_rfl) (by rfl) (by kernel_rfl) (fun _ _ _ h => h) (by rfl) (fun w' hw' => ?_) gS ?_
          rotate_left
          focus (go_simp; (try with_reducible rfl); done)
          (try simp only [Act.put, List.getElem_toArray, List.getElem_cons_succ, List.getElem_cons_zero, List.setIfInBounds_toArray, List.set_cons_zero, List.set_cons_succ])
          refine wpAnyG_take 2 (v := ?_) rfl (by kernel_rfl) (by kernel_rfl) (by kernel_rfl) (by kernel_rfl) (by rfl) (by kernel_rfl) (fun _ _ _ h => h) (by rfl) (fun w' hw' => ?_) gS ?_
          rotate_left
          focus (go_simp; (try with_reducible rfl); done)
          (try simp only [Act.put, List.getElem_toArray, List.getElem_cons_succ, List.getElem_cons_zero, List.setIfInBounds_toArray, List.set_cons_zero, List.set_cons_succ])
          refine wpAnyG_one 3 (by kernel_rfl) rfl (by rfl) (fun K hK => ?_)
          go_simp
          go_at_call 84
          refine (rof_e (m := D) (by omega) (by omega)).mono ?_
          rintro e w12 ⟨A12, k12, c12, rfl, h12, x12, n12⟩
          have gS : Ext wr w12 := Ext.trans gS x12
          (try go_wp2_with fail)
          refine hK.out _ _ (fun _ => gS) ?_
          clear hK K
          (try simp only [Act.put, List.getElem_toArray, List.getElem_cons_succ, List.getElem_cons_zero, List.setIfInBounds_toArray, List.set_cons_zero, List.set_cons_succ])
          refine wpAnyG_one 4 (by kernel_rfl) rfl (by rfl) (fun K hK => ?_)
          go_simp
          go_at_call 59
          refine (rmul_n (HNA.out _ gS) (CanV.nat h12 (fit_small (by omega))) (by have := HL3.out; have := HB2.out; omega)).mono ?_
          rintro e w13 ⟨A13, k13, c13, rfl, h13, x13, n13⟩
          have hg12 := gS.size
          have gS : Ext wr w13 := Ext.trans gS x13
          obtain ⟨hc, hf⟩ := HCC.out _ gS
          (try go_wp2_with fail)
          refine hK.out _ _ (fun _ => gS) ?_
          clear hK K
          (try simp only [Act.put, List.getElem_toArray, List.getElem_cons_succ, List.getElem_cons_zero, List.setIfInBounds_toArray, List.set_cons_zero, List.set_cons_succ])
          refine wpAnyG_one 5 (by kernel_rfl) rfl (by rfl) (fun K hK => ?_)
          go_simp
          refine hK.out _ _ (fun h => absurd h (by decide)) ?_
          clear hK K
          (try simp only [Act.put, List.getElem_toArray, List.getElem_cons_succ, List.getElem_cons_zero, List.setIfInBounds_toArray, List.set_cons_zero, List.set_cons_succ])
          refine wpAnyG_done (by kernel_rfl) ?_ _
          have hO := OutB.set (B := W0.heap.size) hc hf h13 (hx.trans gS) n13 (by omega) (by have := hx.size; omega) hlo
          have hgs := gS.size
          have hV2 := (HV2.out _ gS).set (p := ⟨ba, 0, none⟩) (New.at_ (by omega)) hlt (.slice A13 k13 c13)
          rw [← Nat.pow_succ] at hO
          have hsz : W1.heap.size ≤ (w13.setCell ⟨ba, 0, none⟩ (.slice A13 k13 c13)).heap.size := by simp; omega
          clear h12 x12 n12 h13 x13 n13 hc hf gS hx hgs hg12
          generalize w13.setCell ⟨ba, 0, none⟩ (.slice A13 k13 c13) = WB at *
          go_wp2
          go_roundw
          case rel => exact ⟨i + 1, some ⟨wo.heap.size, 0, none⟩, i + 2, by omega, by go_num, rfl, hV2, hO, New.at_ (by omega), hsz⟩
          case measure => first | (simp [intOf]; done) | (simp [intOf]; omega)
    · obtain rfl : i = n := by omega
      obtain ⟨MA, mk, ml, hc, hf, hC, hx, hN⟩ := hO
      have HS := Lib.hid (fun (w' : World) (h : Ext wr w') => ((h.cell (p := ⟨ba, 0, none⟩) (World.block_lt_of_cell? _ _ hc)).trans hc : w'.cell? ⟨ba, 0, none⟩ = some (.slice MA mk ml)))
      obtain ⟨r0, g0⟩ := HR.out _ hx
      have HV := Lib.hid hv
      have HCC := Lib.hid hC
      clear hc hf hv hC
      go_upto_region 18 with (fail)
      refine wp_region_G (fun w' => Ext wr w') [3] (by kernel_rfl) ?_
      have gS : Ext wr wr.drew := (Below.refl _ _).drew
      refine wpAnyG_take 0 (v := ?_) rfl (by kernel_rfl) (by kernel_rfl) (by kernel_rfl) (by kernel_rfl) (by rfl) (by kernel_rfl) (fun _ _ _ h => h) (by rfl) (fun w' hw' => ?_) gS ?_
      rotate_left
      focus (go_simp; (try with_reducible rfl); done)
      (try simp only [Act.put, List.getElem_toArray, List.getElem_cons_succ, List.getElem_cons_zero, List.setIfInBounds_toArray, List.set_cons_zero, List.set_cons_succ])
      refine wpAnyG_take 1 (v := ?_) rfl (by kernel_rfl) (by kernel_rfl) (by kernel_rfl) (by kernel_rfl) (by rfl) (by kernel_rfl) (fun _ _ _ h => h) (by rfl) (fun w' hw' => ?_) gS ?_
      rotate_left
      focus (have hh := HS.out _ hw'; go_split_ands; go_simp; (try with_reducible rfl); done)
      (try simp only [Act.put, List.getElem_toArray, List.getElem_cons_succ, List.getElem_cons_zero, List.setIfInBounds_toArray, List.set_cons_zero, List.set_cons_succ])
      refine wpAnyG_take 2 (v := ?_) rfl (by kernel_rfl) (by kernel_rfl) (by kernel_rfl) (by kernel_rfl) (by rfl) (by kernel_rfl) (fun _ _ _ h => h) (by rfl) (fun w' hw' => ?_) gS ?_
      rotate_left
      focus (go_simp; (try with_reducible rfl); done)
      (try simp only [Act.put, List.getElem_toArray, List.getElem_cons_succ, List.getElem_cons_zero, List.setIfInBounds_toArray, List.set_cons_zero, List.set_cons_succ])
      refine wpAnyG_one 3 (by kernel_rfl) rfl (by rfl) (fun K hK => ?_)
      go_simp
      refine hK.out _ _ (fun h => absurd h (by decide)) ?_
      clear hK K
      (try simp only [Act.put, List.getElem_toArray, List.getElem_cons_succ, List.getElem_cons_zero, List.setIfInBounds_toArray, List.set_cons_zero, List.set_cons_succ])
      refine wpAnyG_done (by kernel_rfl) ?_ _
      go_wp2
      have q0 := World.cell?_setCell_same wr ⟨w.heap.size, 0, none⟩ (.slice MA mk ml) r0
      refine bodyPost_ret (v := .tuple #[.slice A (i + 1) c, .agg #[.slice MA mk ml]]) (by simp [results, Tryz.results73, go_sem, q0]) rfl ?_
      exact GivesW.box (b := w.heap.size) (by rw [upto_length]) (HE.out.trans hx) HV.out HCC.out (hnw.mono (by omega)) (hN.mono (by omega)) ⟨Nat.le_refl _, by omega⟩

end Go.Proofs.YtnedgbebajhcpaaGreatDoor
