/- The walk of SamplingAdds. -/
import Derived.Test.YtnedgbebajhcpaaDoorSamP
import Derived.Test.YtnedgbebajhcpaaDoorSamV
import Derived.Test.YtnedgbebajhcpaaDoorOwnI
import Derived.Test.YtnedgbebajhcpaaDoorWf
set_option linter.unusedVariables false
set_option linter.unusedSimpArgs false
set_option maxRecDepth 100000
namespace Go.Proofs.YtnedgbebajhcpaaDoor
open Go.RowKit Num

theorem tmod2_even {k : Nat} (h : k % 2 = 0) : (k : Int).tmod 2 = 0 := by
  rw [Int.tmod_eq_emod_of_nonneg (by omega)]; omega
theorem tmod2_odd {k : Nat} (h : ¬ k % 2 = 0) : (k : Int).tmod 2 = 1 := by
  rw [Int.tmod_eq_emod_of_nonneg (by omega)]; omega
theorem OwnI.at_ {base g n k : Nat} {w : World} {xs : List Int} (h : OwnI base w g n xs) (hl : xs.length = n) (hk : k < n) : w.cell? ⟨g, k, none⟩ = some (.int .i64 (xs.getD k 0)) ∧ w.frozen? ⟨g, k, none⟩ = false :=
  ⟨(World.ownsRow.cellAt h k (by omega)).trans (i64l_get xs (by omega)), World.ownsRow.frozenAt h k⟩
theorem OwnI.len {base g n : Nat} {w : World} {xs : List Int} (h : OwnI base w g n xs) : xs.length = n := by have := h.1; simpa [i64l_length] using this

theorem toul_row {ps : List Int} {n t c : Nat} {A : Option Addr} {w : World} (hl : ps.length = n) (hv : IntsV w (.slice A n c) ps) (hz : ∀ z ∈ ps, 0 ≤ z ∧ z ≤ 64) (hn : n ≤ 64) (ht : t ≤ 8) :
    Calls Tryd.prog 19 #[.slice A n c, .int .i64 t] w (GivesFE w (toulS ps t n)) := by
  subst hl
  exact stoul_ok hv hz hn ht
theorem toul_fbr {ps : List Int} {n t : Nat} (hl : ps.length = n) (hz : ∀ z ∈ ps, 0 ≤ z ∧ z ≤ 64) (hn : n ≤ 64) (ht : t ≤ 8) : FB (toulS ps t n) 20000 := by
  subst hl
  exact (toulS_fb ht hz hn _ (Nat.le_refl _)).mono (by omega)

set_option maxHeartbeats 32000000 in
theorem law_SAdds {t : Int} {fs gs : List Int} {v0 v1 : Value} {w : World} (hk0 : KInts .i64 w v0 fs) (hk1 : KInts .i64 w v1 gs) (htt : -9223372036854775808 ≤ t ∧ t ≤ 9223372036854775807) (ht : Tab10 w) :
    Calls Tryd.prog 6 #[v0, v1, .int .i64 t] w (fun e w' => e = .returned (.bool true) ∧ Ext w w') := by
  obtain ⟨A, c, rfl, hc1, hc2, _, hr0⟩ := id hk0
  obtain ⟨A', c', rfl, hc1', hc2', _, hr1⟩ := id hk1
  have hv0 := hk0.ints
  have hv1 := hk1.ints
  have HT := Lib.hid (fun (w' : World) (h : Ext w w') => ht.ext h)
  have HV0 := Lib.hid (fun (w' : World) (h : Ext w w') => hv0.below h)
  have HV1 := Lib.hid (fun (w' : World) (h : Ext w w') => hv1.below h)
  have HI0 := Lib.hid (fun (k : Nat) (h : k < fs.length) => i64_of_wf (hr0 _ (getD_memS (us := fs) (k := k) h)))
  have HI1 := Lib.hid (fun (k : Nat) (h : k < gs.length) => i64_of_wf (hr1 _ (getD_memS (us := gs) (k := k) h)))
  clear hk0 hk1 hv0 hv1 hr0 hr1
  by_cases hl0 : fs.length ≤ 64
  · have e0 : decide ((64 : Int) < (fs.length : Int)) = false := decide_eq_false (by omega)
    have e0' : ¬ 64 < fs.length := by omega
    by_cases hl1 : gs.length ≤ 64
    · have e1 : decide ((64 : Int) < (gs.length : Int)) = false := decide_eq_false (by omega)
      have e1' : ¬ 64 < gs.length := by omega
      obtain ⟨i0, hi, hz0, hz1, hz2⟩ := info_parts info_int
      go_enter Tryd.func6, Tryd.ntmps6
      go_wp2_with fail
      refine (sawake ht).mono ?_
      rintro e U0 ⟨rfl, V0⟩
      clear ht
      go_wp2_with fail
      refine (mod_i (b := 9) (by omega) (by omega) htt).mono ?_
      rintro e U2 ⟨m, hm, rfl, hU2⟩
      obtain rfl : U0 = U2 := hU2.symm
      have hm8 : m ≤ 8 := by omega
      obtain ⟨n, hn⟩ : ∃ n : Nat, n = max fs.length gs.length := ⟨_, rfl⟩
      have hmx : max (fs.length : Int) (gs.length : Int) = (n : Int) := by omega
      have hn64 : n ≤ 64 := by omega
      have hnf : fs.length ≤ n := by omega
      have hng : gs.length ≤ n := by omega
      clear hn htt hm
      go_upto_region 5 with (at_make; refine wpList_make_full _ rfl _ _ 36 rfl U0.heap.size 3 i0 (.int .i64 0) 1 Tryd.underlying36 hi hz0 hz1 _ _ _ _ n rfl rfl (by omega) (by omega) ?b1 ?b2 ?b3 ?_)
      case b1 => rw [hz2]; omega
      case b2 => unfold maxLen; omega
      case b3 => exact Nat.le_refl _
      intro w4 hown hgrow
      rw [i64l_zeros] at hown
      have hb4 : Ext U0 w4 := (Below.refl _ _).grown hgrow (Nat.le_refl _) (by simp)
      have hO1 : OwnI 0 w4 U0.heap.size n (List.replicate n 0) := ownsRow_base hown (Nat.zero_le _)
      obtain ⟨g1, hg1e⟩ : ∃ g1, g1 = U0.heap.size := ⟨_, rfl⟩
      rw [← hg1e] at hO1
      rw [show (Value.slice (some { block := U0.heap.size, off := 0, spot := none }) n n) = Value.slice (some ⟨g1, 0, none⟩) n n from by rw [hg1e]]
      have hg1 : U0.heap.size ≤ g1 := by omega
      have HO1 := Lib.hid (fun (w' : World) (h : Ext w4 w') => hO1.ext h)
      have HL1 := Lib.hid hO1.blk
      clear hown hgrow hg1e
      go_upto_region 5 with (fail)
      go_cut [8, 9] (fun pv qv wx => ∃ g2 g3 : Nat, pv = .slice (some ⟨g2, 0, none⟩) n n ∧ qv = .slice (some ⟨g3, 0, none⟩) n n ∧ (g1 < g2 ∧ g1 < g3 ∧ g2 ≠ g3) ∧ OwnI 0 wx g1 n (List.replicate n 0) ∧ OwnI 0 wx g2 n (List.replicate n 0) ∧ OwnI 0 wx g3 n (List.replicate n 0) ∧ Ext U0 wx)
      case first =>
        refine wp_region_G (fun w' => Ext w4 w') [7] (by kernel_rfl) ?_
        have gS : Ext w4 w4.drew := (Below.refl _ _).drew
        refine wpAnyG_take 0 (v := ?_) rfl (by kernel_rfl) (by kernel_rfl) (by kernel_rfl) (by kernel_rfl) (by rfl) (by kernel_rfl) (fun _ _ _ h => h) (by rfl) (fun w' hw' => ?_) gS ?_
        rotate_left
        focus (go_simp; (try with_reducible rfl); done)
        (try simp only [Act.put, List.getElem_toArray, List.getElem_cons_succ, List.getElem_cons_zero, List.setIfInBounds_toArray, List.set_cons_zero, List.set_cons_succ])
        refine wpAnyG_take 1 (v := ?_) rfl (by kernel_rfl) (by kernel_rfl) (by kernel_rfl) (by kernel_rfl) (by rfl) (by kernel_rfl) (fun _ _ _ h => h) (by rfl) (fun w' hw' => ?_) gS ?_
        rotate_left
        focus (go_simp; (try with_reducible rfl); done)
        (try simp only [Act.put, List.getElem_toArray, List.getElem_cons_succ, List.getElem_cons_zero, List.setIfInBounds_toArray, List.set_cons_zero, List.set_cons_succ])
        refine wpAnyG_take 3 (v := ?_) rfl (by kernel_rfl) (by kernel_rfl) (by kernel_rfl) (by kernel_rfl) (by rfl) (by kernel_rfl) (fun _ _ _ h => h) (by rfl) (fun w' hw' => ?_) gS ?_
        rotate_left
        focus (go_simp; (try with_reducible rfl); done)
        (try simp only [Act.put, List.getElem_toArray, List.getElem_cons_succ, List.getElem_cons_zero, List.setIfInBounds_toArray, List.set_cons_zero, List.set_cons_succ])
        refine wpAnyG_take 4 (v := ?_) rfl (by kernel_rfl) (by kernel_rfl) (by kernel_rfl) (by kernel_rfl) (by rfl) (by kernel_rfl) (fun _ _ _ h => h) (by rfl) (fun w' hw' => ?_) gS ?_
        rotate_left
        focus (go_simp; (try with_reducible rfl); done)
        (try simp only [Act.put, List.getElem_toArray, List.getElem_cons_succ, List.getElem_cons_zero, List.setIfInBounds_toArray, List.set_cons_zero, List.set_cons_succ])
        refine wpAnyG_two 2 5 (by kernel_rfl) rfl rfl (by rfl) (by rfl) (fun K hK => ?_) (fun K hK => ?_)
        · refine wp_make_full w4.drew (.tmp 45) (.tmp 45) 36 rfl 0 3 i0 (.int .i64 0) 1 Tryd.underlying36 hi hz0 hz1 _ _ _ _ n rfl rfl rfl rfl (by rw [hz2]; omega) (by unfold maxLen; omega) (Nat.zero_le _) ?_
          intro w5 hown hgrow
          rw [Nat.mul_one, show (Value.int .i64 0).cells = #[.int .i64 0] from rfl, i64l_zeros] at hown
          have hO2 : OwnI 0 w5 w4.heap.size n (List.replicate n 0) := hown
          have hb5 : Ext w4 w5 := Below.grown (show Ext w4 w4.drew from (Below.refl _ _).drew) hgrow (Nat.le_refl _) (by simp)
          have gS : Ext w4 w5 := hb5
          clear hown hgrow
          (try go_wp2_with fail)
          refine hK.out _ _ (fun _ => gS) ?_
          clear hK K
          (try simp only [Act.put, List.getElem_toArray, List.getElem_cons_succ, List.getElem_cons_zero, List.setIfInBounds_toArray, List.set_cons_zero, List.set_cons_succ])
          refine wpAnyG_take 6 (v := ?_) rfl (by kernel_rfl) (by kernel_rfl) (by kernel_rfl) (by kernel_rfl) (by rfl) (by kernel_rfl) (fun _ _ _ h => h) (by rfl) (fun w' hw' => ?_) gS ?_
          rotate_left
          focus (go_simp; (try with_reducible rfl); done)
          (try simp only [Act.put, List.getElem_toArray, List.getElem_cons_succ, List.getElem_cons_zero, List.setIfInBounds_toArray, List.set_cons_zero, List.set_cons_succ])
          refine wpAnyG_one 5 (by kernel_rfl) rfl (by rfl) (fun K hK => ?_)
          refine wp_make_full w5 (.tmp 48) (.tmp 48) 36 rfl 0 3 i0 (.int .i64 0) 1 Tryd.underlying36 hi hz0 hz1 _ _ _ _ n rfl rfl rfl rfl (by rw [hz2]; omega) (by unfold maxLen; omega) (Nat.zero_le _) ?_
          intro w6 hown hgrow
          rw [Nat.mul_one, show (Value.int .i64 0).cells = #[.int .i64 0] from rfl, i64l_zeros] at hown
          have hO3 : OwnI 0 w6 w5.heap.size n (List.replicate n 0) := hown
          have hb6 : Ext w5 w6 := (Below.refl _ _).grown hgrow (Nat.le_refl _) (by simp)
          have gS : Ext w4 w6 := hb5.trans hb6
          have hlt := HL1.out
          have hlt2 := hO2.blk
          clear hown hgrow
          (try go_wp2_with fail)
          refine hK.out _ _ (fun _ => gS) ?_
          clear hK K
          (try simp only [Act.put, List.getElem_toArray, List.getElem_cons_succ, List.getElem_cons_zero, List.setIfInBounds_toArray, List.set_cons_zero, List.set_cons_succ])
          refine wpAnyG_one 7 (by kernel_rfl) rfl (by rfl) (fun K hK => ?_)
          go_simp
          refine hK.out _ _ (fun h => absurd h (by decide)) ?_
          clear hK K
          (try simp only [Act.put, List.getElem_toArray, List.getElem_cons_succ, List.getElem_cons_zero, List.setIfInBounds_toArray, List.set_cons_zero, List.set_cons_succ])
          refine wpAnyG_done (by kernel_rfl) ?_ _
          go_wp2
          go_meet
          exact ⟨w4.heap.size, w5.heap.size, rfl, rfl, ⟨by omega, by omega, by omega⟩, HO1.out _ (hb5.trans hb6), hO2.ext hb6, hO3, hb4.trans (hb5.trans hb6)⟩
        · refine wp_make_full w4.drew (.tmp 48) (.tmp 48) 36 rfl 0 3 i0 (.int .i64 0) 1 Tryd.underlying36 hi hz0 hz1 _ _ _ _ n rfl rfl rfl rfl (by rw [hz2]; omega) (by unfold maxLen; omega) (Nat.zero_le _) ?_
          intro w5 hown hgrow
          rw [Nat.mul_one, show (Value.int .i64 0).cells = #[.int .i64 0] from rfl, i64l_zeros] at hown
          have hO2 : OwnI 0 w5 w4.heap.size n (List.replicate n 0) := hown
          have hb5 : Ext w4 w5 := Below.grown (show Ext w4 w4.drew from (Below.refl _ _).drew) hgrow (Nat.le_refl _) (by simp)
          have gS : Ext w4 w5 := hb5
          clear hown hgrow
          (try go_wp2_with fail)
          refine hK.out _ _ (fun _ => gS) ?_
          clear hK K
          (try simp only [Act.put, List.getElem_toArray, List.getElem_cons_succ, List.getElem_cons_zero, List.setIfInBounds_toArray, List.set_cons_zero, List.set_cons_succ])
          refine wpAnyG_one 2 (by kernel_rfl) rfl (by rfl) (fun K hK => ?_)
          refine wp_make_full w5 (.tmp 45) (.tmp 45) 36 rfl 0 3 i0 (.int .i64 0) 1 Tryd.underlying36 hi hz0 hz1 _ _ _ _ n rfl rfl rfl rfl (by rw [hz2]; omega) (by unfold maxLen; omega) (Nat.zero_le _) ?_
          intro w6 hown hgrow
          rw [Nat.mul_one, show (Value.int .i64 0).cells = #[.int .i64 0] from rfl, i64l_zeros] at hown
          have hO3 : OwnI 0 w6 w5.heap.size n (List.replicate n 0) := hown
          have hb6 : Ext w5 w6 := (Below.refl _ _).grown hgrow (Nat.le_refl _) (by simp)
          have gS : Ext w4 w6 := hb5.trans hb6
          have hlt := HL1.out
          have hlt2 := hO2.blk
          clear hown hgrow
          (try go_wp2_with fail)
          refine hK.out _ _ (fun _ => gS) ?_
          clear hK K
          (try simp only [Act.put, List.getElem_toArray, List.getElem_cons_succ, List.getElem_cons_zero, List.setIfInBounds_toArray, List.set_cons_zero, List.set_cons_succ])
          refine wpAnyG_take 6 (v := ?_) rfl (by kernel_rfl) (by kernel_rfl) (by kernel_rfl) (by kernel_rfl) (by rfl) (by kernel_rfl) (fun _ _ _ h => h) (by rfl) (fun w' hw' => ?_) gS ?_
          rotate_left
          focus (go_simp; (try with_reducible rfl); done)
          (try simp only [Act.put, List.getElem_toArray, List.getElem_cons_succ, List.getElem_cons_zero, List.setIfInBounds_toArray, List.set_cons_zero, List.set_cons_succ])
          refine wpAnyG_one 7 (by kernel_rfl) rfl (by rfl) (fun K hK => ?_)
          go_simp
          refine hK.out _ _ (fun h => absurd h (by decide)) ?_
          clear hK K
          (try simp only [Act.put, List.getElem_toArray, List.getElem_cons_succ, List.getElem_cons_zero, List.setIfInBounds_toArray, List.set_cons_zero, List.set_cons_succ])
          refine wpAnyG_done (by kernel_rfl) ?_ _
          go_wp2
          go_meet
          exact ⟨w5.heap.size, w4.heap.size, rfl, rfl, ⟨by omega, by omega, by omega⟩, HO1.out _ (hb5.trans hb6), hO3, hO2.ext hb6, hb4.trans (hb5.trans hb6)⟩
      case rest =>
        obtain ⟨g2, g3, rfl, rfl, ⟨h12, h13, h23⟩, hO1, hO2, hO3, hX⟩ := hcut
        obtain ⟨WC, hWC⟩ : ∃ WC : World, WC = wc := ⟨_, rfl⟩
        subst hWC
        have n21 : g2 ≠ g1 := by omega
        have n31 : g3 ≠ g1 := by omega
        have l2 : U0.heap.size ≤ g2 := by omega
        have l3 : U0.heap.size ≤ g3 := by omega
        clear hi hz0 hz1 hz2 hb4
        go_wp2
        go_loopw [10, 11] (fun av iv wr => ∃ (k : Nat) (ps qs ss : List Int) (a : Int), k ≤ n ∧ iv = .int .i64 k ∧ av = .int .i64 a ∧ OwnI 0 wr g1 n ss ∧ OwnI 0 wr g2 n ps ∧ OwnI 0 wr g3 n qs ∧ Hid (GoodA n k ps qs ss a) ∧ Ext U0 wr) (fun _ iv _ => n - (intOf iv).toNat)
        case atStart => exact ⟨0, _, _, _, 0, Nat.zero_le _, rfl, rfl, hO1, hO2, hO3, Lib.hid (GoodA.start n), hX⟩
        case round =>
          clear hO1 hO2 hO3 hX
          obtain ⟨k, ps, qs, ss, a, hk, rfl, rfl, hO1, hO2, hO3, HG, hX⟩ := hrel
          by_cases hkn : k < n
          · have H1 := Lib.hid hO1
            have H2 := Lib.hid hO2
            have H3 := Lib.hid hO3
            have LP := Lib.hid hO2.len
            have LQ := Lib.hid hO3.len
            have LS := Lib.hid hO1.len
            obtain ⟨z2, _, f2⟩ := hO2.cell hO2.len hkn
            obtain ⟨q0, _⟩ := hO2.at_ hO2.len hkn
            have hkz : (k : Int) < (n : Int) := by omega
            have hk0 : (0 : Int) ≤ (k : Int) := by omega
            clear hO1 hO2 hO3
            go_upto_if 59 with (fail)
            go_cut [] (fun wx => ∃ x : Nat, x ≤ 32 ∧ OwnI 0 wx g1 n ss ∧ OwnI 0 wx g2 n (ps.set k (x : Int)) ∧ OwnI 0 wx g3 n qs ∧ Ext U0 wx)
            case first =>
              by_cases hkf : k < fs.length
              · obtain ⟨b, o, rfl, hb, hc⟩ := (HV0.out _ (V0.trans hX)).plS hkf
                have hxr := HI0.out k hkf
                obtain ⟨x, hx⟩ : ∃ x, x = fs.getD k 0 := ⟨_, rfl⟩
                rw [← hx] at hc hxr
                have hkf' : (k : Int) < (fs.length : Int) := by omega
                clear hx
                go_wp2_with (go_at_call 22; (with_reducible refine (mod_i (b := 33) (by omega) (by omega) hxr).mono ?_); rintro e s1 ⟨y, hy, rfl, hs1⟩; obtain rfl : wr = s1 := hs1.symm)
                go_meet
                exact ⟨y, by omega, H1.out.away H2.out n21.symm _, H2.out.put _, H3.out.away H2.out h23.symm _, hX.setCell (p := ⟨g2, k, none⟩) l2 _⟩
              · have hkf' : ¬ (k : Int) < (fs.length : Int) := by omega
                go_wp2
                go_meet
                exact ⟨0, by omega, H1.out, by rw [show ((0 : Nat) : Int) = 0 from rfl, set_sameI (HG.out.2.2.2.2.1 k (Nat.le_refl _)).1]; exact H2.out, H3.out, hX⟩
            case rest =>
              obtain ⟨x, hx, hO1, hO2, hO3, hX1⟩ := hcut
              obtain ⟨WP, hWP⟩ : ∃ WP : World, WP = wc := ⟨_, rfl⟩
              subst hWP
              clear q0 f2
              have H1 := Lib.hid hO1
              have H2 := Lib.hid hO2
              have H3 := Lib.hid hO3
              obtain ⟨z3, q0, f3⟩ := hO3.cell hO3.len hkn
              clear hO1 hO2 hO3
              go_upto_if 71 with (fail)
              go_cut [] (fun wx => ∃ y : Nat, y ≤ 32 ∧ OwnI 0 wx g1 n ss ∧ OwnI 0 wx g2 n (ps.set k (x : Int)) ∧ OwnI 0 wx g3 n (qs.set k (y : Int)) ∧ Ext U0 wx)
              case first =>
                by_cases hkf : k < gs.length
                · obtain ⟨b, o, rfl, hb, hc⟩ := (HV1.out _ (V0.trans hX1)).plS hkf
                  have hxr := HI1.out k hkf
                  obtain ⟨u, hu⟩ : ∃ u, u = gs.getD k 0 := ⟨_, rfl⟩
                  rw [← hu] at hc hxr
                  have hkf' : (k : Int) < (gs.length : Int) := by omega
                  clear hu
                  go_wp2_with (go_at_call 22; (with_reducible refine (mod_i (b := 33) (by omega) (by omega) hxr).mono ?_); rintro e s1 ⟨y, hy, rfl, hs1⟩; obtain rfl : WP = s1 := hs1.symm)
                  go_meet
                  exact ⟨y, by omega, H1.out.away H3.out n31.symm _, H2.out.away H3.out h23 _, H3.out.put _, hX1.setCell (p := ⟨g3, k, none⟩) l3 _⟩
                · have hkf' : ¬ (k : Int) < (gs.length : Int) := by omega
                  go_wp2
                  go_meet
                  exact ⟨0, by omega, H1.out, H2.out, by rw [show ((0 : Nat) : Int) = 0 from rfl, set_sameI (HG.out.2.2.2.2.1 k (Nat.le_refl _)).2]; exact H3.out, hX1⟩
              case rest =>
                obtain ⟨y, hy, hO1, hO2, hO3, hX2⟩ := hcut
                obtain ⟨WQ, hWQ⟩ : ∃ WQ : World, WQ = wc := ⟨_, rfl⟩
                subst hWQ
                clear q0 f3 H1 H2 H3
                have H1 := Lib.hid hO1
                have H2 := Lib.hid hO2
                have H3 := Lib.hid hO3
                obtain ⟨z1, q1, f1⟩ := hO1.cell LS.out hkn
                have q2 := (hO2.at_ hO2.len hkn).1
                have q3 := (hO3.at_ hO3.len hkn).1
                rw [getD_setI, if_pos ⟨rfl, by rw [LP.out]; exact hkn⟩] at q2
                rw [getD_setI, if_pos ⟨rfl, by rw [LQ.out]; exact hkn⟩] at q3
                have hab := HG.out.2.2.2.2.2.2
                have hwxy : IntKind.i64.wrap ((x : Int) + (y : Int)) = (x : Int) + (y : Int) := wrap_in (by omega)
                have hwa : IntKind.i64.wrap (a + ((x : Int) + (y : Int))) = a + ((x : Int) + (y : Int)) := wrap_in (by omega)
                have hws : IntKind.i64.wrap (a - ((x : Int) + (y : Int))) = a - ((x : Int) + (y : Int)) := wrap_in (by omega)
                have hwk : IntKind.i64.wrap ((k : Int) + 1) = (k : Int) + 1 := wrap_in (by omega)
                have HNX := Lib.hid (HG.out.next (x := (x : Int)) (y := (y : Int)) hkn (by omega) (by omega))
                have HS := Lib.hid (fun (w' : World) (h : Ext WQ w') => (⟨(h.cell (p := ⟨g2, k, none⟩) (World.block_lt_of_cell? _ _ q2)).trans q2, (h.cell (p := ⟨g3, k, none⟩) (World.block_lt_of_cell? _ _ q3)).trans q3⟩ : w'.cell? ⟨g2, k, none⟩ = some (.int .i64 x) ∧ w'.cell? ⟨g3, k, none⟩ = some (.int .i64 y)))
                clear hO1 hO2 hO3 hab
                go_upto_region 14 with (fail)
                refine wp_region_G (fun w' => Ext WQ w') [12] (by kernel_rfl) ?_
                have gS : Ext WQ WQ.drew := (Below.refl _ _).drew
                refine wpAnyG_take 0 (v := ?_) rfl (by kernel_rfl) (by kernel_rfl) (by kernel_rfl) (by kernel_rfl) (by rfl) (by kernel_rfl) (fun _ _ _ h => h) (by rfl) (fun w' hw' => ?_) gS ?_
                rotate_left
                focus (go_simp; (try with_reducible rfl); done)
                (try simp only [Act.put, List.getElem_toArray, List.getElem_cons_succ, List.getElem_cons_zero, List.setIfInBounds_toArray, List.set_cons_zero, List.set_cons_succ])
                refine wpAnyG_take 1 (v := ?_) rfl (by kernel_rfl) (by kernel_rfl) (by kernel_rfl) (by kernel_rfl) (by rfl) (by kernel_rfl) (fun _ _ _ h => h) (by rfl) (fun w' hw' => ?_) gS ?_
                rotate_left
                focus (go_simp; (try with_reducible rfl); done)
                (try simp only [Act.put, List.getElem_toArray, List.getElem_cons_succ, List.getElem_cons_zero, List.setIfInBounds_toArray, List.set_cons_zero, List.set_cons_succ])
                refine wpAnyG_take 2 (v := ?_) rfl (by kernel_rfl) (by kernel_rfl) (by kernel_rfl) (by kernel_rfl) (by rfl) (by kernel_rfl) (fun _ _ _ h => h) (by rfl) (fun w' hw' => ?_) gS ?_
                rotate_left
                focus (go_simp; (try with_reducible rfl); done)
                (try simp only [Act.put, List.getElem_toArray, List.getElem_cons_succ, List.getElem_cons_zero, List.setIfInBounds_toArray, List.set_cons_zero, List.set_cons_succ])
                refine wpAnyG_take 3 (v := ?_) rfl (by kernel_rfl) (by kernel_rfl) (by kernel_rfl) (by kernel_rfl) (by rfl) (by kernel_rfl) (fun _ _ _ h => h) (by rfl) (fun w' hw' => ?_) gS ?_
                rotate_left
                focus (go_simp; (try with_reducible rfl); done)
                (try simp only [Act.put, List.getElem_toArray, List.getElem_cons_succ, List.getElem_cons_zero, List.setIfInBounds_toArray, List.set_cons_zero, List.set_cons_succ])
                refine wpAnyG_take 4 (v := ?_) rfl (by kernel_rfl) (by kernel_rfl) (by kernel_rfl) (by kernel_rfl) (by rfl) (by kernel_rfl) (fun _ _ _ h => h) (by rfl) (fun w' hw' => ?_) gS ?_
                rotate_left
                focus (go_simp; (try with_reducible rfl); done)
                (try simp only [Act.put, List.getElem_toArray, List.getElem_cons_succ, List.getElem_cons_zero, List.setIfInBounds_toArray, List.set_cons_zero, List.set_cons_succ])
                refine wpAnyG_take 5 (v := ?_) rfl (by kernel_rfl) (by kernel_rfl) (by kernel_rfl) (by kernel_rfl) (by rfl) (by kernel_rfl) (fun _ _ _ h => h) (by rfl) (fun w' hw' => ?_) gS ?_
                rotate_left
                focus (have hh := HS.out _ hw'; go_split_ands; go_simp; (try with_reducible rfl); done)
                (try simp only [Act.put, List.getElem_toArray, List.getElem_cons_succ, List.getElem_cons_zero, List.setIfInBounds_toArray, List.set_cons_zero, List.set_cons_succ])
                refine wpAnyG_take 6 (v := ?_) rfl (by kernel_rfl) (by kernel_rfl) (by kernel_rfl) (by kernel_rfl) (by rfl) (by kernel_rfl) (fun _ _ _ h => h) (by rfl) (fun w' hw' => ?_) gS ?_
                rotate_left
                focus (go_simp; (try with_reducible rfl); done)
                (try simp only [Act.put, List.getElem_toArray, List.getElem_cons_succ, List.getElem_cons_zero, List.setIfInBounds_toArray, List.set_cons_zero, List.set_cons_succ])
                refine wpAnyG_take 7 (v := ?_) rfl (by kernel_rfl) (by kernel_rfl) (by kernel_rfl) (by kernel_rfl) (by rfl) (by kernel_rfl) (fun _ _ _ h => h) (by rfl) (fun w' hw' => ?_) gS ?_
                rotate_left
                focus (go_simp; (try with_reducible rfl); done)
                (try simp only [Act.put, List.getElem_toArray, List.getElem_cons_succ, List.getElem_cons_zero, List.setIfInBounds_toArray, List.set_cons_zero, List.set_cons_succ])
                refine wpAnyG_take 8 (v := ?_) rfl (by kernel_rfl) (by kernel_rfl) (by kernel_rfl) (by kernel_rfl) (by rfl) (by kernel_rfl) (fun _ _ _ h => h) (by rfl) (fun w' hw' => ?_) gS ?_
                rotate_left
                focus (go_simp; (try with_reducible rfl); done)
                (try simp only [Act.put, List.getElem_toArray, List.getElem_cons_succ, List.getElem_cons_zero, List.setIfInBounds_toArray, List.set_cons_zero, List.set_cons_succ])
                refine wpAnyG_take 9 (v := ?_) rfl (by kernel_rfl) (by kernel_rfl) (by kernel_rfl) (by kernel_rfl) (by rfl) (by kernel_rfl) (fun _ _ _ h => h) (by rfl) (fun w' hw' => ?_) gS ?_
                rotate_left
                focus (have hh := HS.out _ hw'; go_split_ands; go_simp; (try with_reducible rfl); done)
                (try simp only [Act.put, List.getElem_toArray, List.getElem_cons_succ, List.getElem_cons_zero, List.setIfInBounds_toArray, List.set_cons_zero, List.set_cons_succ])
                refine wpAnyG_take 10 (v := ?_) rfl (by kernel_rfl) (by kernel_rfl) (by kernel_rfl) (by kernel_rfl) (by rfl) (by kernel_rfl) (fun _ _ _ h => h) (by rfl) (fun w' hw' => ?_) gS ?_
                rotate_left
                focus (go_simp; (try with_reducible rfl); done)
                (try simp only [Act.put, List.getElem_toArray, List.getElem_cons_succ, List.getElem_cons_zero, List.setIfInBounds_toArray, List.set_cons_zero, List.set_cons_succ])
                refine wpAnyG_take 11 (v := ?_) rfl (by kernel_rfl) (by kernel_rfl) (by kernel_rfl) (by kernel_rfl) (by rfl) (by kernel_rfl) (fun _ _ _ h => h) (by rfl) (fun w' hw' => ?_) gS ?_
                rotate_left
                focus (go_simp; (try with_reducible rfl); done)
                (try simp only [Act.put, List.getElem_toArray, List.getElem_cons_succ, List.getElem_cons_zero, List.setIfInBounds_toArray, List.set_cons_zero, List.set_cons_succ])
                refine wpAnyG_one 12 (by kernel_rfl) rfl (by rfl) (fun K hK => ?_)
                (try simp only [List.getElem_toArray, List.getElem_cons_succ, List.getElem_cons_zero])
                go_simp
                refine hK.out _ _ (fun h => absurd h (by decide)) ?_
                clear hK K
                (try simp only [Act.put, List.getElem_toArray, List.getElem_cons_succ, List.getElem_cons_zero, List.setIfInBounds_toArray, List.set_cons_zero, List.set_cons_succ])
                refine wpAnyG_done (by kernel_rfl) ?_ _
                have hP1 := (H1.out.put (k := k) ((x : Int) + (y : Int))).ext (Below.refl _ _).drew
                have hP2 := (H2.out.away (k := k) H1.out n21 (.int .i64 ((x : Int) + (y : Int)))).ext (Below.refl _ _).drew
                have hP3 := (H3.out.away (k := k) H1.out n31 (.int .i64 ((x : Int) + (y : Int)))).ext (Below.refl _ _).drew
                have hX3 : Ext U0 (WQ.setCell ⟨g1, k, none⟩ (.int .i64 ((x : Int) + (y : Int)))).drew := (hX2.setCell (p := ⟨g1, k, none⟩) hg1 _).drew
                clear q1 f1 q2 q3 HS
                generalize (WQ.setCell ⟨g1, k, none⟩ (.int .i64 ((x : Int) + (y : Int)))).drew = WR at *
                have q1 := (hP1.at_ hP1.len hkn).1
                rw [getD_setI, if_pos ⟨rfl, by rw [LS.out]; exact hkn⟩] at q1
                have HP1 := Lib.hid hP1
                have HP2 := Lib.hid hP2
                have HP3 := Lib.hid hP3
                clear hP1 hP2 hP3
                by_cases hk2 : k % 2 = 0
                · have hr : IntKind.i64.wrap ((k : Int).tmod 2) = 0 := by rw [tmod2_even hk2]; rfl
                  have hr2 : ((k : Int) % 2 == 0) = true := by rw [beq_iff_eq]; omega
                  have hr3 : (k : Int) % 2 = 0 := by omega
                  have HN2 := HNX.out
                  rw [if_pos hk2] at HN2
                  have HNX := Lib.hid HN2
                  clear HN2 hk2
                  go_wp2
                  go_roundw
                  case rel => exact ⟨k + 1, _, _, _, _, by omega, by go_num, rfl, HP1.out, HP2.out, HP3.out, HNX, hX3⟩
                  case measure => first | (simp [intOf]; done) | (simp [intOf]; omega)
                · have hr : IntKind.i64.wrap ((k : Int).tmod 2) = 1 := by rw [tmod2_odd hk2]; rfl
                  have hr2 : ((k : Int) % 2 == 0) = false := by rw [beq_eq_false_iff_ne]; omega
                  have hr3 : (k : Int) % 2 = 1 := by omega
                  have HN2 := HNX.out
                  rw [if_neg hk2] at HN2
                  have HNX := Lib.hid HN2
                  clear HN2 hk2
                  go_wp2
                  go_roundw
                  case rel => exact ⟨k + 1, _, _, _, _, by omega, by go_num, rfl, HP1.out, HP2.out, HP3.out, HNX, hX3⟩
                  case measure => first | (simp [intOf]; done) | (simp [intOf]; omega)
          · obtain rfl : k = n := by omega
            have hkk : ¬ ((k : Int) < (k : Int)) := by omega
            have hG := HG.out
            have nP := hG.numsP
            have nQ := hG.numsQ
            have nS := hG.numsS
            obtain ⟨lp, lq, ls⟩ := hG.1
            have hab := hG.2.2.2.2.2.2
            have hae := hG.2.2.2.2.2.1
            have T1 := Lib.hid (fun (w' : World) (h : Ext wr w') => toul_row (t := m) lp ((IntsV.of_own hO2).below h) nP hn64 hm8)
            have T2 := Lib.hid (fun (w' : World) (h : Ext wr w') => toul_row (t := m) lq ((IntsV.of_own hO3).below h) nQ hn64 hm8)
            have T3 := Lib.hid (fun (w' : World) (h : Ext wr w') => toul_row (t := m) ls ((IntsV.of_own hO1).below h) nS hn64 hm8)
            have T4 := Lib.hid (fun (w' : World) (h : Ext wr w') => (show Calls Tryd.prog 19 #[.slice (some ⟨g1, 0, none⟩) k k, .int .i64 0] w' (GivesFE w' (toulS ss 0 k)) from toul_row (t := 0) ls ((IntsV.of_own hO1).below h) nS hn64 (by omega)))
            have T5 := Lib.hid (fun (w' : World) (h : Ext wr w') => (show Calls Tryd.prog 19 #[.slice (some ⟨g1, 0, none⟩) k k, .int .i64 1] w' (GivesFE w' (toulS ss 1 k)) from toul_row (t := 1) ls ((IntsV.of_own hO1).below h) nS hn64 (by omega)))
            have F1 := Lib.hid (toul_fbr (t := m) lp nP hn64 hm8)
            have F2 := Lib.hid (toul_fbr (t := m) lq nQ hn64 hm8)
            have F3 := Lib.hid (toul_fbr (t := m) ls nS hn64 hm8)
            have F4 := Lib.hid (toul_fbr (t := 0) ls nS hn64 (by omega))
            have F5 := Lib.hid (toul_fbr (t := 1) ls nS hn64 (by omega))
            have E1 := hG.adds m k
            have E2 := toulS_zero ss k
            have E3 := toulS_one ss k
            rw [← hae] at E3
            obtain ⟨qa, hqa⟩ : ∃ q, q = toulS ps m k := ⟨_, rfl⟩
            obtain ⟨qb, hqb⟩ : ∃ q, q = toulS qs m k := ⟨_, rfl⟩
            obtain ⟨qc, hqc⟩ : ∃ q, q = toulS ss m k := ⟨_, rfl⟩
            obtain ⟨qz, hqz⟩ : ∃ q, q = toulS ss 0 k := ⟨_, rfl⟩
            obtain ⟨qo, hqo⟩ : ∃ q, q = toulS ss 1 k := ⟨_, rfl⟩
            rw [← hqa] at T1 F1 E1
            rw [← hqb] at T2 F2 E1
            rw [← hqc] at T3 F3 E1
            rw [← hqz] at T4 F4 E2
            rw [← hqo] at T5 F5 E3
            have HZ1 := Lib.hid (show cmpQ (qa + qb) qc = 0 from (cmpQ_zero _ _).2 E1)
            have HZ2 := Lib.hid (show sgnQ qz = 0 from by rw [E2]; decide +kernel)
            have HZ3 := Lib.hid (show cmpQ qo ((a : Rat) / ((1 : Int) : Rat)) = 0 from (cmpQ_zero _ _).2 (by
              rw [E3, show ((1 : Int) : Rat) = 1 from rfl]; grind))
            have HFO := Lib.hid (show FB ((a : Rat) / ((1 : Int) : Rat)) 3 from fb_i64 (by omega) (by omega))
            have HOF := Lib.hid (fun (w' : World) => (show Calls Tryd.prog 13 #[.int .i64 a, .int .i64 1] w' (GivesF w' ((a : Rat) / ((1 : Int) : Rat))) from fof_n (n := a) (d := 1) (by omega) (by omega)))
            obtain ⟨qA, hqA⟩ : ∃ q, q = (a : Rat) / ((1 : Int) : Rat) := ⟨_, rfl⟩
            rw [← hqA] at HZ3 HFO HOF
            have F6 := Lib.hid (FB.add F1.out F2.out (by omega))
            clear hG nP nQ nS lp lq ls hab hae hO1 hO2 hO3 E1 E2 E3 hqa hqb hqc hqz hqo hqA
            go_wp2_with fail
            refine (T1.out _ (Below.refl _ _)).mono ?_
            rintro e w1 ⟨b1, A1, k1, c1, A1', k1', c1', rfl, h1, y1, n1, n1'⟩
            clear n1 n1'
            go_upto_region 19 with (fail)
            have hG1 := FBox.new w1 (.bool b1) (.slice A1 k1 c1) (.slice A1' k1' c1') 28
            have Y1 : Ext wr (w1.alloc (.cells #[.bool b1, .slice A1 k1 c1, .slice A1' k1' c1'] 28)) := ext_alloc y1 _
            have h1 := h1.below (ext_alloc (Below.refl _ _) (.cells #[.bool b1, .slice A1 k1 c1, .slice A1' k1' c1'] 28))
            have hsz1 : w1.heap.size < (w1.alloc (.cells #[.bool b1, .slice A1 k1 c1, .slice A1' k1' c1'] 28)).heap.size := by simp
            generalize w1.alloc (.cells #[.bool b1, .slice A1 k1 c1, .slice A1' k1' c1'] 28) = W1 at *
            generalize w1.heap.size = B1 at *
            have HG1 := Lib.hid (fun (w' : World) (h : Ext W1 w') => hG1.below h)
            have HP1 := Lib.hid (fun (w' : World) (h : Ext W1 w') => FracV.any (h1.below h) (F1.out) (by omega))
            have HB1 := Lib.hid (fun (w' : World) (h : Ext W1 w') => h1.below h)
            clear hG1 h1 y1 hsz1
            go_wp2_with fail
            refine (T2.out _ Y1).mono ?_
            rintro e w2 ⟨b2, A2, k2, c2, A2', k2', c2', rfl, h2, y2, n2, n2'⟩
            clear n2 n2'
            go_upto_region 20 with (fail)
            have hG2 := FBox.new w2 (.bool b2) (.slice A2 k2 c2) (.slice A2' k2' c2') 28
            have Y2 : Ext W1 (w2.alloc (.cells #[.bool b2, .slice A2 k2 c2, .slice A2' k2' c2'] 28)) := ext_alloc y2 _
            have h2 := h2.below (ext_alloc (Below.refl _ _) (.cells #[.bool b2, .slice A2 k2 c2, .slice A2' k2' c2'] 28))
            have hsz2 : w2.heap.size < (w2.alloc (.cells #[.bool b2, .slice A2 k2 c2, .slice A2' k2' c2'] 28)).heap.size := by simp
            generalize w2.alloc (.cells #[.bool b2, .slice A2 k2 c2, .slice A2' k2' c2'] 28) = W2 at *
            generalize w2.heap.size = B2 at *
            have HG2 := Lib.hid (fun (w' : World) (h : Ext W2 w') => hG2.below h)
            have HP2 := Lib.hid (fun (w' : World) (h : Ext W2 w') => FracV.any (h2.below h) (F2.out) (by omega))
            have HB2 := Lib.hid (fun (w' : World) (h : Ext W2 w') => h2.below h)
            clear hG2 h2 y2 hsz2
            go_wp2_with fail
            refine (T3.out _ (Y1.trans Y2)).mono ?_
            rintro e w3 ⟨b3, A3, k3, c3, A3', k3', c3', rfl, h3, y3, n3, n3'⟩
            clear n3 n3'
            go_upto_region 21 with (fail)
            have hG3 := FBox.new w3 (.bool b3) (.slice A3 k3 c3) (.slice A3' k3' c3') 28
            have Y3 : Ext W2 (w3.alloc (.cells #[.bool b3, .slice A3 k3 c3, .slice A3' k3' c3'] 28)) := ext_alloc y3 _
            have h3 := h3.below (ext_alloc (Below.refl _ _) (.cells #[.bool b3, .slice A3 k3 c3, .slice A3' k3' c3'] 28))
            have hsz3 : w3.heap.size < (w3.alloc (.cells #[.bool b3, .slice A3 k3 c3, .slice A3' k3' c3'] 28)).heap.size := by simp
            generalize w3.alloc (.cells #[.bool b3, .slice A3 k3 c3, .slice A3' k3' c3'] 28) = W3 at *
            generalize w3.heap.size = B3 at *
            have HG3 := Lib.hid (fun (w' : World) (h : Ext W3 w') => hG3.below h)
            have HP3 := Lib.hid (fun (w' : World) (h : Ext W3 w') => FracV.any (h3.below h) (F3.out) (by omega))
            have HB3 := Lib.hid (fun (w' : World) (h : Ext W3 w') => h3.below h)
            clear hG3 h3 y3 hsz3
            go_wp2_with fail
            refine (T4.out _ (Y1.trans (Y2.trans Y3))).mono ?_
            rintro e w4 ⟨b4, A4, k4, c4, A4', k4', c4', rfl, h4, y4, n4, n4'⟩
            clear n4 n4'
            go_upto_region 22 with (fail)
            have hG4 := FBox.new w4 (.bool b4) (.slice A4 k4 c4) (.slice A4' k4' c4') 28
            have Y4 : Ext W3 (w4.alloc (.cells #[.bool b4, .slice A4 k4 c4, .slice A4' k4' c4'] 28)) := ext_alloc y4 _
            have h4 := h4.below (ext_alloc (Below.refl _ _) (.cells #[.bool b4, .slice A4 k4 c4, .slice A4' k4' c4'] 28))
            have hsz4 : w4.heap.size < (w4.alloc (.cells #[.bool b4, .slice A4 k4 c4, .slice A4' k4' c4'] 28)).heap.size := by simp
            generalize w4.alloc (.cells #[.bool b4, .slice A4 k4 c4, .slice A4' k4' c4'] 28) = W4 at *
            generalize w4.heap.size = B4 at *
            have HG4 := Lib.hid (fun (w' : World) (h : Ext W4 w') => hG4.below h)
            have HP4 := Lib.hid (fun (w' : World) (h : Ext W4 w') => FracV.any (h4.below h) (F4.out) (by omega))
            have HB4 := Lib.hid (fun (w' : World) (h : Ext W4 w') => h4.below h)
            clear hG4 h4 y4 hsz4
            go_wp2_with fail
            refine (T5.out _ (Y1.trans (Y2.trans (Y3.trans Y4)))).mono ?_
            rintro e w5 ⟨b5, A5, k5, c5, A5', k5', c5', rfl, h5, y5, n5, n5'⟩
            clear n5 n5'
            go_upto_region 23 with (fail)
            have hG5 := FBox.new w5 (.bool b5) (.slice A5 k5 c5) (.slice A5' k5' c5') 28
            have Y5 : Ext W4 (w5.alloc (.cells #[.bool b5, .slice A5 k5 c5, .slice A5' k5' c5'] 28)) := ext_alloc y5 _
            have h5 := h5.below (ext_alloc (Below.refl _ _) (.cells #[.bool b5, .slice A5 k5 c5, .slice A5' k5' c5'] 28))
            have hsz5 : w5.heap.size < (w5.alloc (.cells #[.bool b5, .slice A5 k5 c5, .slice A5' k5' c5'] 28)).heap.size := by simp
            generalize w5.alloc (.cells #[.bool b5, .slice A5 k5 c5, .slice A5' k5' c5'] 28) = W5 at *
            generalize w5.heap.size = B5 at *
            have HG5 := Lib.hid (fun (w' : World) (h : Ext W5 w') => hG5.below h)
            have HP5 := Lib.hid (fun (w' : World) (h : Ext W5 w') => FracV.any (h5.below h) (F5.out) (by omega))
            have HB5 := Lib.hid (fun (w' : World) (h : Ext W5 w') => h5.below h)
            clear hG5 h5 y5 hsz5
            have E4 : Ext W4 W5 := Y5
            have E3 : Ext W3 W5 := Y4.trans E4
            have E2 : Ext W2 W5 := Y3.trans E3
            have E1 : Ext W1 W5 := Y2.trans E2
            have HS := Lib.hid (fun (w' : World) (h : Ext W5 w') => (⟨⟨(HG1.out _ (E1.trans h)).1, (HG1.out _ (E1.trans h)).2.1, (HG1.out _ (E1.trans h)).2.2.1⟩, ⟨(HG2.out _ (E2.trans h)).1, (HG2.out _ (E2.trans h)).2.1, (HG2.out _ (E2.trans h)).2.2.1⟩, ⟨(HG3.out _ (E3.trans h)).1, (HG3.out _ (E3.trans h)).2.1, (HG3.out _ (E3.trans h)).2.2.1⟩, ⟨(HG4.out _ (E4.trans h)).1, (HG4.out _ (E4.trans h)).2.1, (HG4.out _ (E4.trans h)).2.2.1⟩, (HG5.out _ h).1, (HG5.out _ h).2.1, (HG5.out _ h).2.2.1⟩ :
              (w'.cell? ⟨B1, 0, none⟩ = some (.bool b1) ∧ w'.cell? ⟨B1, 1, none⟩ = some (.slice A1 k1 c1) ∧ w'.cell? ⟨B1, 2, none⟩ = some (.slice A1' k1' c1')) ∧ (w'.cell? ⟨B2, 0, none⟩ = some (.bool b2) ∧ w'.cell? ⟨B2, 1, none⟩ = some (.slice A2 k2 c2) ∧ w'.cell? ⟨B2, 2, none⟩ = some (.slice A2' k2' c2')) ∧
              (w'.cell? ⟨B3, 0, none⟩ = some (.bool b3) ∧ w'.cell? ⟨B3, 1, none⟩ = some (.slice A3 k3 c3) ∧ w'.cell? ⟨B3, 2, none⟩ = some (.slice A3' k3' c3')) ∧ (w'.cell? ⟨B4, 0, none⟩ = some (.bool b4) ∧ w'.cell? ⟨B4, 1, none⟩ = some (.slice A4 k4 c4) ∧ w'.cell? ⟨B4, 2, none⟩ = some (.slice A4' k4' c4')) ∧
              w'.cell? ⟨B5, 0, none⟩ = some (.bool b5) ∧ w'.cell? ⟨B5, 1, none⟩ = some (.slice A5 k5 c5) ∧ w'.cell? ⟨B5, 2, none⟩ = some (.slice A5' k5' c5')))
            go_upto_region 24 with (fail)
            refine wp_region_G (fun w' => Ext W5 w') [21] (by kernel_rfl) ?_
            have gS : Ext W5 W5.drew := (Below.refl _ _).drew
            refine wpAnyG_take 0 (v := ?_) rfl (by kernel_rfl) (by kernel_rfl) (by kernel_rfl) (by kernel_rfl) (by rfl) (by kernel_rfl) (fun _ _ _ h => h) (by rfl) (fun w' hw' => ?_) gS ?_
            rotate_left
            focus (go_simp; (try with_reducible rfl); done)
            (try simp only [Act.put, List.getElem_toArray, List.getElem_cons_succ, List.getElem_cons_zero, List.setIfInBounds_toArray, List.set_cons_zero, List.set_cons_succ])
            refine wpAnyG_take 1 (v := ?_) rfl (by kernel_rfl) (by kernel_rfl) (by kernel_rfl) (by kernel_rfl) (by rfl) (by kernel_rfl) (fun _ _ _ h => h) (by rfl) (fun w' hw' => ?_) gS ?_
            rotate_left
            focus (go_simp; (try with_reducible rfl); done)
            (try simp only [Act.put, List.getElem_toArray, List.getElem_cons_succ, List.getElem_cons_zero, List.setIfInBounds_toArray, List.set_cons_zero, List.set_cons_succ])
            refine wpAnyG_take 2 (v := ?_) rfl (by kernel_rfl) (by kernel_rfl) (by kernel_rfl) (by kernel_rfl) (by rfl) (by kernel_rfl) (fun _ _ _ h => h) (by rfl) (fun w' hw' => ?_) gS ?_
            rotate_left
            focus (have hh := HS.out _ hw'; go_split_ands; go_simp; (try with_reducible rfl); done)
            (try simp only [Act.put, List.getElem_toArray, List.getElem_cons_succ, List.getElem_cons_zero, List.setIfInBounds_toArray, List.set_cons_zero, List.set_cons_succ])
            refine wpAnyG_take 3 (v := ?_) rfl (by kernel_rfl) (by kernel_rfl) (by kernel_rfl) (by kernel_rfl) (by rfl) (by kernel_rfl) (fun _ _ _ h => h) (by rfl) (fun w' hw' => ?_) gS ?_
            rotate_left
            focus (have hh := HS.out _ hw'; go_split_ands; go_simp; (try with_reducible rfl); done)
            (try simp only [Act.put, List.getElem_toArray, List.getElem_cons_succ, List.getElem_cons_zero, List.setIfInBounds_toArray, List.set_cons_zero, List.set_cons_succ])
            refine wpAnyG_take 5 (v := ?_) rfl (by kernel_rfl) (by kernel_rfl) (by kernel_rfl) (by kernel_rfl) (by rfl) (by kernel_rfl) (fun _ _ _ h => h) (by rfl) (fun w' hw' => ?_) gS ?_
            rotate_left
            focus (have hh := HS.out _ hw'; go_split_ands; go_simp; (try with_reducible rfl); done)
            (try simp only [Act.put, List.getElem_toArray, List.getElem_cons_succ, List.getElem_cons_zero, List.setIfInBounds_toArray, List.set_cons_zero, List.set_cons_succ])
            refine wpAnyG_one 4 (by kernel_rfl) rfl (by rfl) (fun K hK => ?_)
            go_simp
            go_at_call 24
            refine (add_f (HP1.out _ (E1.trans gS)) (HP2.out _ (E2.trans gS)) F1.out F2.out (by omega)).mono ?_
            rintro _ s1 ⟨b6, A6, k6, c6, B6, l6, d6, rfl, h6, z6, _, _⟩
            have gS : Ext W5 s1 := Ext.trans gS z6
            (try go_wp2_with fail)
            refine hK.out _ _ (fun _ => gS) ?_
            clear hK K
            (try simp only [Act.put, List.getElem_toArray, List.getElem_cons_succ, List.getElem_cons_zero, List.setIfInBounds_toArray, List.set_cons_zero, List.set_cons_succ])
            refine wpAnyG_one 6 (by kernel_rfl) rfl (by rfl) (fun K hK => ?_)
            go_simp
            go_at_call 14
            refine (cmp_e (FracV.any h6 F6.out (by omega)) (HP3.out _ (E3.trans gS)) (by omega) HZ1.out).mono ?_
            rintro _ s2 ⟨rfl, z7⟩
            have gS : Ext W5 s2 := Ext.trans gS z7
            (try go_wp2_with fail)
            refine hK.out _ _ (fun _ => gS) ?_
            clear hK K
            (try simp only [Act.put, List.getElem_toArray, List.getElem_cons_succ, List.getElem_cons_zero, List.setIfInBounds_toArray, List.set_cons_zero, List.set_cons_succ])
            refine wpAnyG_take 7 (v := ?_) rfl (by kernel_rfl) (by kernel_rfl) (by kernel_rfl) (by kernel_rfl) (by rfl) (by kernel_rfl) (fun _ _ _ h => h) (by rfl) (fun w' hw' => ?_) gS ?_
            rotate_left
            focus (go_simp; (try with_reducible rfl); done)
            (try simp only [Act.put, List.getElem_toArray, List.getElem_cons_succ, List.getElem_cons_zero, List.setIfInBounds_toArray, List.set_cons_zero, List.set_cons_succ])
            refine wpAnyG_take 8 (v := ?_) rfl (by kernel_rfl) (by kernel_rfl) (by kernel_rfl) (by kernel_rfl) (by rfl) (by kernel_rfl) (fun _ _ _ h => h) (by rfl) (fun w' hw' => ?_) gS ?_
            rotate_left
            focus (go_simp; (try with_reducible rfl); done)
            (try simp only [Act.put, List.getElem_toArray, List.getElem_cons_succ, List.getElem_cons_zero, List.setIfInBounds_toArray, List.set_cons_zero, List.set_cons_succ])
            refine wpAnyG_take 9 (v := ?_) rfl (by kernel_rfl) (by kernel_rfl) (by kernel_rfl) (by kernel_rfl) (by rfl) (by kernel_rfl) (fun _ _ _ h => h) (by rfl) (fun w' hw' => ?_) gS ?_
            rotate_left
            focus (go_simp; (try with_reducible rfl); done)
            (try simp only [Act.put, List.getElem_toArray, List.getElem_cons_succ, List.getElem_cons_zero, List.setIfInBounds_toArray, List.set_cons_zero, List.set_cons_succ])
            refine wpAnyG_take 10 (v := ?_) rfl (by kernel_rfl) (by kernel_rfl) (by kernel_rfl) (by kernel_rfl) (by rfl) (by kernel_rfl) (fun _ _ _ h => h) (by rfl) (fun w' hw' => ?_) gS ?_
            rotate_left
            focus (have hh := HS.out _ hw'; go_split_ands; go_simp; (try with_reducible rfl); done)
            (try simp only [Act.put, List.getElem_toArray, List.getElem_cons_succ, List.getElem_cons_zero, List.setIfInBounds_toArray, List.set_cons_zero, List.set_cons_succ])
            refine wpAnyG_one 11 (by kernel_rfl) rfl (by rfl) (fun K hK => ?_)
            (try simp only [List.getElem_toArray, List.getElem_cons_succ, List.getElem_cons_zero])
            go_simp
            go_at_call 23
            refine (sign_e (HP4.out _ (E4.trans gS)) HZ2.out).mono ?_
            rintro _ s3 ⟨rfl, z8⟩
            have gS : Ext W5 s3 := Ext.trans gS z8
            (try go_wp2_with fail)
            refine hK.out _ _ (fun _ => gS) ?_
            clear hK K
            (try simp only [Act.put, List.getElem_toArray, List.getElem_cons_succ, List.getElem_cons_zero, List.setIfInBounds_toArray, List.set_cons_zero, List.set_cons_succ])
            refine wpAnyG_take 12 (v := ?_) rfl (by kernel_rfl) (by kernel_rfl) (by kernel_rfl) (by kernel_rfl) (by rfl) (by kernel_rfl) (fun _ _ _ h => h) (by rfl) (fun w' hw' => ?_) gS ?_
            rotate_left
            focus (go_simp; (try with_reducible rfl); done)
            (try simp only [Act.put, List.getElem_toArray, List.getElem_cons_succ, List.getElem_cons_zero, List.setIfInBounds_toArray, List.set_cons_zero, List.set_cons_succ])
            refine wpAnyG_take 13 (v := ?_) rfl (by kernel_rfl) (by kernel_rfl) (by kernel_rfl) (by kernel_rfl) (by rfl) (by kernel_rfl) (fun _ _ _ h => h) (by rfl) (fun w' hw' => ?_) gS ?_
            rotate_left
            focus (go_simp; (try with_reducible rfl); done)
            (try simp only [Act.put, List.getElem_toArray, List.getElem_cons_succ, List.getElem_cons_zero, List.setIfInBounds_toArray, List.set_cons_zero, List.set_cons_succ])
            refine wpAnyG_take 14 (v := ?_) rfl (by kernel_rfl) (by kernel_rfl) (by kernel_rfl) (by kernel_rfl) (by rfl) (by kernel_rfl) (fun _ _ _ h => h) (by rfl) (fun w' hw' => ?_) gS ?_
            rotate_left
            focus (go_simp; (try with_reducible rfl); done)
            (try simp only [Act.put, List.getElem_toArray, List.getElem_cons_succ, List.getElem_cons_zero, List.setIfInBounds_toArray, List.set_cons_zero, List.set_cons_succ])
            refine wpAnyG_take 15 (v := ?_) rfl (by kernel_rfl) (by kernel_rfl) (by kernel_rfl) (by kernel_rfl) (by rfl) (by kernel_rfl) (fun _ _ _ h => h) (by rfl) (fun w' hw' => ?_) gS ?_
            rotate_left
            focus (have hh := HS.out _ hw'; go_split_ands; go_simp; (try with_reducible rfl); done)
            (try simp only [Act.put, List.getElem_toArray, List.getElem_cons_succ, List.getElem_cons_zero, List.setIfInBounds_toArray, List.set_cons_zero, List.set_cons_succ])
            refine wpAnyG_take 16 (v := ?_) rfl (by kernel_rfl) (by kernel_rfl) (by kernel_rfl) (by kernel_rfl) (by rfl) (by kernel_rfl) (fun _ _ _ h => h) (by rfl) (fun w' hw' => ?_) gS ?_
            rotate_left
            focus (go_simp; (try with_reducible rfl); done)
            (try simp only [Act.put, List.getElem_toArray, List.getElem_cons_succ, List.getElem_cons_zero, List.setIfInBounds_toArray, List.set_cons_zero, List.set_cons_succ])
            refine wpAnyG_one 17 (by kernel_rfl) rfl (by rfl) (fun K hK => ?_)
            (try simp only [List.getElem_toArray, List.getElem_cons_succ, List.getElem_cons_zero])
            go_simp
            go_at_call 13
            refine (HOF.out _).mono ?_
            rintro _ s4 ⟨b9, A9, k9, c9, B9, l9, d9, rfl, h9, z9, _, _⟩
            have gS : Ext W5 s4 := Ext.trans gS z9
            (try go_wp2_with fail)
            refine hK.out _ _ (fun _ => gS) ?_
            clear hK K
            (try simp only [Act.put, List.getElem_toArray, List.getElem_cons_succ, List.getElem_cons_zero, List.setIfInBounds_toArray, List.set_cons_zero, List.set_cons_succ])
            refine wpAnyG_one 18 (by kernel_rfl) rfl (by rfl) (fun K hK => ?_)
            (try simp only [List.getElem_toArray, List.getElem_cons_succ, List.getElem_cons_zero])
            go_simp
            go_at_call 14
            refine (cmp_e (HP5.out _ gS) (FracV.any h9 HFO.out (by omega)) (by omega) HZ3.out).mono ?_
            rintro _ s5 ⟨rfl, z10⟩
            have gS : Ext W5 s5 := Ext.trans gS z10
            have f5 := gS
            (try go_wp2_with fail)
            refine hK.out _ _ (fun _ => gS) ?_
            clear hK K
            (try simp only [Act.put, List.getElem_toArray, List.getElem_cons_succ, List.getElem_cons_zero, List.setIfInBounds_toArray, List.set_cons_zero, List.set_cons_succ])
            refine wpAnyG_take 19 (v := ?_) rfl (by kernel_rfl) (by kernel_rfl) (by kernel_rfl) (by kernel_rfl) (by rfl) (by kernel_rfl) (fun _ _ _ h => h) (by rfl) (fun w' hw' => ?_) gS ?_
            rotate_left
            focus (go_simp; (try with_reducible rfl); done)
            (try simp only [Act.put, List.getElem_toArray, List.getElem_cons_succ, List.getElem_cons_zero, List.setIfInBounds_toArray, List.set_cons_zero, List.set_cons_succ])
            refine wpAnyG_take 20 (v := ?_) rfl (by kernel_rfl) (by kernel_rfl) (by kernel_rfl) (by kernel_rfl) (by rfl) (by kernel_rfl) (fun _ _ _ h => h) (by rfl) (fun w' hw' => ?_) gS ?_
            rotate_left
            focus (go_simp; (try with_reducible rfl); done)
            (try simp only [Act.put, List.getElem_toArray, List.getElem_cons_succ, List.getElem_cons_zero, List.setIfInBounds_toArray, List.set_cons_zero, List.set_cons_succ])
            refine wpAnyG_one 21 (by kernel_rfl) rfl (by rfl) (fun K hK => ?_)
            (try simp only [List.getElem_toArray, List.getElem_cons_succ, List.getElem_cons_zero])
            go_simp
            refine hK.out _ _ (fun h => absurd h (by decide)) ?_
            clear hK K
            (try simp only [Act.put, List.getElem_toArray, List.getElem_cons_succ, List.getElem_cons_zero, List.setIfInBounds_toArray, List.set_cons_zero, List.set_cons_succ])
            refine wpAnyG_done (by kernel_rfl) ?_ _
            go_wp2
            go_ret
            exact ⟨rfl, V0.trans (hX.trans (Y1.trans (E1.trans f5)))⟩
    · have e1 : decide ((64 : Int) < (gs.length : Int)) = true := decide_eq_true (by omega)
      have e1' : 64 < gs.length := by omega
      go_enter Tryd.func6, Tryd.ntmps6
      go_wp2_with fail
      refine (sawake ht).mono ?_
      rintro e U0 ⟨rfl, V0⟩
      go_wp2_with fail
      refine (sawake (HT.out _ V0)).mono ?_
      rintro e U1 ⟨rfl, V1⟩
      go_wp2
      go_ret
      exact ⟨rfl, V0.trans V1⟩
  · have e0 : decide ((64 : Int) < (fs.length : Int)) = true := decide_eq_true (by omega)
    have e0' : 64 < fs.length := by omega
    go_enter Tryd.func6, Tryd.ntmps6
    go_wp2_with fail
    refine (sawake ht).mono ?_
    rintro e U0 ⟨rfl, V0⟩
    go_wp2_with fail
    refine (sawake (HT.out _ V0)).mono ?_
    rintro e U1 ⟨rfl, V1⟩
    go_wp2
    go_ret
    exact ⟨rfl, V0.trans V1⟩

end Go.Proofs.YtnedgbebajhcpaaDoor
