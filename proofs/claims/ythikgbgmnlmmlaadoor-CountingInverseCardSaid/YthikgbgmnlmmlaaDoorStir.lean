/- Rows of Stirling numbers: counting.row, ref03.parts. -/
import Derived.Test.YthikgbgmnlmmlaaDoorPasc
set_option linter.unusedVariables false
set_option linter.unusedSimpArgs false
set_option maxRecDepth 100000
namespace Go.Proofs.YthikgbgmnlmmlaaDoor
open Go.RowKit Num

section
variable {e : TypeId} {base : Nat} {w w' w1 : World} {v v' u : Value} {us : List Value} {ns : List Nat} {m : Nat}
theorem Far.old {wo : World} {xs : List Nat} (hu : U32s wo u xs) (hv : ∀ g, v.ownBlock = some g → wo.heap.size ≤ g) : Far u v := by
  intro A n c g e hg
  subst e
  have h1 := hu.lt
  have h2 := hv g hg
  omega
end
theorem stir_top (i : Nat) : stir (i + 1) (i + 1) = stir i i := by rw [stir_succ, stir_gt i (i + 1) (by omega), Nat.mul_zero, Nat.add_zero]

set_option maxHeartbeats 4000000 in
theorem crow_n {n : Nat} {w : World} (hn : n ≤ 64) :
    Calls Tryd.prog 45 #[.int .i64 n] w (GivesL w (upto_ (stir n) (n + 1))) := by
  obtain ⟨i0, hi, hz0, hz1, hz2⟩ := info_parts info_nat
  go_enter Tryd.func45, Tryd.ntmps45
  go_wp2_with fail
  refine (cof_e (m := 1) (by omega) (by omega)).mono ?_
  rintro e w1 ⟨A1, k1, c1, rfl, h1, x1, n1⟩
  have hl := OwnN.lit (e := 25) (base := w.heap.size) w1 x1.size h1 n1
  have hl2 := hl.nats
  have hx1 : Ext w (w1.alloc (.cells #[.slice A1 k1 c1] 25)) := ext_alloc x1 _
  clear hl n1 h1
  go_wp2
  generalize w1.alloc (.cells #[.slice A1 k1 c1] 25) = W1 at *
  go_loopw [3, 11] (fun ov iv wr => ∃ (i : Nat) (A : Option Addr) (c : Nat), i ≤ n ∧ iv = .int .i64 i ∧ ov = .slice A (i + 1) c ∧ NatsV w.heap.size wr (.slice A (i + 1) c) (upto_ (stir i) (i + 1)) ∧ Ext w wr ∧ New w.heap.size (.slice A (i + 1) c))
    (fun _ iv _ => n + 1 - (intOf iv).toNat)
  case atStart => exact ⟨0, _, 1, Nat.zero_le _, by go_num, rfl, hl2, hx1, New.at_ x1.size⟩
  case round =>
    obtain ⟨i, A, c, hin, rfl, rfl, hv, hx, hnw⟩ := hrel
    by_cases hik : i < n
    · go_wp2_with fail
      refine (cof_e (m := 0) (by omega) (by omega)).mono ?_
      rintro e w2 ⟨A2, k2, c2, rfl, h2, x2, n2⟩
      have hl := OwnN.lit (e := 25) (base := wr.heap.size) w2 x2.size h2 (n2.mono hx.size)
      have hx3 : Ext wr (w2.alloc (.cells #[.slice A2 k2 c2] 25)) := ext_alloc x2 _
      clear n2 h2
      go_wp2
      generalize w2.alloc (.cells #[.slice A2 k2 c2] 25) = W2 at *
      obtain ⟨wo, hwo⟩ : ∃ wo : World, wo = wr := ⟨_, rfl⟩
      subst hwo
      go_loopw [5, 6] (fun nv kv wr => ∃ (k : Nat) (us : List Value), 1 ≤ k ∧ k ≤ i + 2 ∧ kv = .int .i64 k ∧ OwnN 25 wo.heap.size w.heap.size wr nv us (upto_ (stir (i + 1)) k) ∧ Ext wo wr)
        (fun _ kv _ => i + 2 - (intOf kv).toNat)
      case atStart => exact ⟨1, _, Nat.le_refl _, by omega, rfl, hl, hx3⟩
      case round =>
        obtain ⟨k, us, hk1, hk2, rfl, hown, hxr⟩ := hrel
        have hlt := hown.1.lt
        have hUL := upto_length (stir (i + 1)) k
        by_cases hki : k < i + 2
        · obtain ⟨j, rfl⟩ : ∃ j, k = j + 1 := ⟨k - 1, by omega⟩
          obtain ⟨ad, A5, k5, c5, rfl, hb5, hc5, hn5, hq5⟩ := hv.at_ (k := j) (upto_at (by omega))
          have HF5 := Lib.hid (Far.old hn5 fun g hg => (hlt g hg).1)
          have hc5r := (hxr.cell (p := ad.add j) (by rw [block_of_add]; exact hb5)).trans hc5
          have HU := Lib.hid hUL
          have HOWN := Lib.hid hown
          have HB1 := Lib.hid (stir_len (n := i) (k := j) (by omega))
          have HN5 := Lib.hid (hn5.below hxr)
          have hw1 : IntKind.i64.wrap (j : Int) = (j : Int) := wrap_in (by omega)
          have hw2 : IntKind.i64.wrap ((j : Int) + 1) = (j : Int) + 1 := wrap_in (by omega)
          have hb1 : (j : Int) < (i : Int) + 1 := by omega
          clear hn5 hown hUL hlt hc5
          by_cases hlast : j < i
          · have hb2 : (j : Int) < (i : Int) := by omega
            have hb3 : (0 : Int) ≤ (j : Int) + 1 := by omega
            obtain ⟨ad', A6, k6, c6, he, hb6, hc6, hn6, _⟩ := hv.at_ (k := j + 1) (upto_at (by omega))
            injection he with he
            subst he
            have hc6r := (hxr.cell (p := ad.add (j + 1)) (by rw [block_of_add]; exact hb6)).trans hc6
            have HN6 := Lib.hid (hn6.below hxr)
            have HB2 := Lib.hid (stir_len (n := i) (k := j + 1) (by omega))
            have HB3 := Lib.hid (len_small (x := j + 1) (by omega))
            have HB4 := Lib.hid (limbsOf_length_mul (j + 1) (stir i (j + 1)))
            clear hn6 hc6
            go_upto_region 11 with (fail)
            have hbx : (wr.alloc (.cells #[.slice A5 k5 c5] 25)).cell? ⟨wr.heap.size, 0, none⟩ = some (.slice A5 k5 c5) ∧ (wr.alloc (.cells #[.slice A5 k5 c5] 25)).frozen? ⟨wr.heap.size, 0, none⟩ = false := by simp [go_sem]
            have hbz : wr.heap.size < (wr.alloc (.cells #[.slice A5 k5 c5] 25)).heap.size := by simp
            have hxW : Ext wr (wr.alloc (.cells #[.slice A5 k5 c5] 25)) := ext_alloc (Below.refl _ _) _
            have hb6r : (ad.add (j + 1)).block < wr.heap.size := World.block_lt_of_cell? _ _ hc6r
            generalize wr.alloc (.cells #[.slice A5 k5 c5] 25) = WX at *
            have hc6x := (hxW.cell (p := ad.add (j + 1)) hb6r).trans hc6r
            have hc6y : WX.cell? ⟨ad.block, ad.off + (j + 1), none⟩ = some (.slice A6 k6 c6) := by simpa [Addr.add] using hc6x
            obtain ⟨hbc, hbf⟩ := hbx
            have HS := Lib.hid (fun (w' : World) (h : Ext WX w') => (⟨(h.cell (p := ⟨wr.heap.size, 0, none⟩) hbz).trans hbc, (h.frozen (p := ⟨wr.heap.size, 0, none⟩) hbz).trans hbf, (h.cell (p := ⟨ad.block, ad.off + (j + 1), none⟩) (World.block_lt_of_cell? _ _ hc6y)).trans hc6y⟩ : w'.cell? ⟨wr.heap.size, 0, none⟩ = some (.slice A5 k5 c5) ∧ w'.frozen? ⟨wr.heap.size, 0, none⟩ = false ∧ w'.cell? ⟨ad.block, ad.off + (j + 1), none⟩ = some (.slice A6 k6 c6)))
            have HXW := Lib.hid hxW
            clear hxW hc5r hc6r hb6r
            go_region_law (first
              | (go_simp; go_at_call 43; (with_reducible refine (cof_e (m := j + 1) (by omega) (by omega)).mono ?_); rintro e w7 ⟨A7, k7, c7, rfl, h7, x7, n7⟩; have e7 : Ext WX w7 := Ext.trans (by repeat first | assumption | exact Below.refl _ _ | refine ext_alloc ?_ _ | refine ext_drew ?_ | refine ext_set ?_ (by first | omega | (simp; done) | (simp; omega)) _) x7; obtain ⟨cc7, ff7, dd7⟩ := HS.out _ e7)
              | (go_simp; go_at_call 24; (with_reducible refine (mul_n (NatV.below (CanV.nat h7 (fit_small (by omega))) (by repeat first | assumption | exact Below.refl _ _ | refine ext_alloc ?_ _ | refine ext_drew ?_ | refine ext_set ?_ (by first | omega | (simp; done) | (simp; omega)) _)) (NatV.below (CanV.nat HN6.out (by unfold Fit; have := HB2.out; omega)) (Ext.trans HXW.out (by repeat first | assumption | exact Below.refl _ _ | refine ext_alloc ?_ _ | refine ext_drew ?_ | refine ext_set ?_ (by first | omega | (simp; done) | (simp; omega)) _))) (by have := HB2.out; have := HB3.out; omega)).mono ?_); rintro e w8 ⟨A8, k8, c8, rfl, h8, x8, n8⟩; have e8 : Ext WX w8 := Ext.trans (by repeat first | assumption | exact Below.refl _ _ | refine ext_alloc ?_ _ | refine ext_drew ?_ | refine ext_set ?_ (by first | omega | (simp; done) | (simp; omega)) _) x8; obtain ⟨cc8, ff8, dd8⟩ := HS.out _ e8)
              | (go_simp; go_at_call 21; (with_reducible refine (add_n (NatV.below (CanV.nat HN5.out (by unfold Fit; have := HB1.out; omega)) (Ext.trans HXW.out (by repeat first | assumption | exact Below.refl _ _ | refine ext_alloc ?_ _ | refine ext_drew ?_ | refine ext_set ?_ (by first | omega | (simp; done) | (simp; omega)) _))) (NatV.below (CanV.nat h8 (by unfold Fit; have := HB2.out; have := HB3.out; have := HB4.out; omega)) (by repeat first | assumption | exact Below.refl _ _ | refine ext_alloc ?_ _ | refine ext_drew ?_ | refine ext_set ?_ (by first | omega | (simp; done) | (simp; omega)) _)) (by have := HB1.out; omega) (by have := HB2.out; have := HB3.out; have := HB4.out; omega)).mono ?_); rintro e w9 ⟨A9, k9, c9, rfl, h9, x9, n9⟩; have e9 : Ext WX w9 := Ext.trans (by repeat first | assumption | exact Below.refl _ _ | refine ext_alloc ?_ _ | refine ext_drew ?_ | refine ext_set ?_ (by first | omega | (simp; done) | (simp; omega)) _) x9; obtain ⟨cc9, ff9, dd9⟩ := HS.out _ e9; have y8 := e8.size; have y9 := x9.size))
            all_goals
              have hcB : (w9.setCell ⟨wr.heap.size, 0, none⟩ (.slice A9 k9 c9)).cell? ⟨wr.heap.size, 0, none⟩ = some (.slice A9 k9 c9) := World.cell?_setCell_same _ _ _ cc9
              have hN9 := U32s.setNew h9 (n9.mono (B' := wr.heap.size + 1) (by first | omega | (simp; done) | (simp; omega))) (p := ⟨wr.heap.size, 0, none⟩) (Nat.lt_succ_self _) (.slice A9 k9 c9)
              have hxB : Ext wr (w9.setCell ⟨wr.heap.size, 0, none⟩ (.slice A9 k9 c9)) := ext_set (HXW.out.trans e9) (Nat.le_refl _) _
              have hn9 := n9.mono (B' := wr.heap.size + 1) (by first | omega | (simp; done) | (simp; omega))
              clear cc9 ff9 dd9 n9 h9 y8 y9 e9 x9
              generalize w9.setCell ⟨wr.heap.size, 0, none⟩ (.slice A9 k9 c9) = WB at *
              have hszB := hxB.size
              go_wp2_with (at_builtin; refine wpList_append_mine _ (by rfl) (.tmp 40) (.tmp 42) 51 (by rfl) wo.heap.size 25 i0 (.agg #[.slice none 0 0]) 1 24 Tryd.underlying51 hi hz0 hz1 hz2 rfl (by omega) _ _ _ (by rfl) (HOWN.out.ext (ext_alloc hxB _)).1 ⟨WB.heap.size, 0, none⟩ 1 1 [.slice A9 k9 c9] (by rfl) rfl (cell_one WB _ _) (by simp [Value.oneCell']) (by rw [HU.out]; unfold maxLen; omega) (by rw [HU.out]; omega) (by have := hxr.size; simp; omega) ?_; intro v10 w10 ho10 hg10 hw10)
              go_wp2
              go_roundw
              case rel => exact ⟨j + 2, us ++ [.slice A9 k9 c9], by omega, by omega, by go_num, by rw [upto_succ, stir_succ]; exact OwnN.grow HOWN.out (ext_alloc hxB _) (CanV.alloc hN9 _) (hn9.mono (by omega)) (Nat.le_trans hx.size hxr.size) ho10 hg10 hw10, OwnN.grow_ext HOWN.out hxr (ext_alloc hxB _) hg10⟩
              case measure => simp [intOf]; omega
          · obtain rfl : i = j := by omega
            have hxB : Ext wr (wr.alloc (.cells #[.slice A5 k5 c5] 25)) := ext_alloc (Below.refl _ _) _
            go_upto_region 12 with (fail)
            have hcB : (wr.alloc (.cells #[.slice A5 k5 c5] 25)).cell? ⟨wr.heap.size, 0, none⟩ = some (.slice A5 k5 c5) := by simp [go_sem]
            generalize wr.alloc (.cells #[.slice A5 k5 c5] 25) = WB at *
            have hszB := hxB.size
            go_wp2_with (at_builtin; refine wpList_append_mine _ (by rfl) (.tmp 40) (.tmp 42) 51 (by rfl) wo.heap.size 25 i0 (.agg #[.slice none 0 0]) 1 24 Tryd.underlying51 hi hz0 hz1 hz2 rfl (by omega) _ _ _ (by rfl) (HOWN.out.ext (ext_alloc hxB _)).1 ⟨WB.heap.size, 0, none⟩ 1 1 [.slice A5 k5 c5] (by rfl) rfl (cell_one WB _ _) (by simp [Value.oneCell']) (by rw [HU.out]; unfold maxLen; omega) (by rw [HU.out]; omega) (by have := hxr.size; simp; omega) ?_; intro v10 w10 ho10 hg10 hw10)
            go_wp2
            go_roundw
            case rel => exact ⟨i + 2, us ++ [.slice A5 k5 c5], by omega, by omega, by go_num, by rw [upto_succ, stir_top]; exact (HOWN.out.ext (ext_alloc hxB _)).push (CanV.alloc (HN5.out.below hxB) _) HF5.out hq5 ho10 hg10 hw10, OwnN.grow_ext HOWN.out hxr (ext_alloc hxB _) hg10⟩
            case measure => simp [intOf]; omega
        · obtain rfl : k = i + 2 := by omega
          have hN8 := hown.nats
          have hW8 : New w.heap.size u5 := fun b hb => Nat.le_trans hx.size (hown.1.lt b hb).1
          obtain ⟨A9, c9, rfl, _, _⟩ := hN8.form
          clear hown hlt
          rw [upto_length] at hN8 hW8 ⊢
          go_wp2
          go_roundw
          case rel => exact ⟨i + 1, A9, c9, by omega, by go_num, rfl, hN8, hx.trans hxr, hW8⟩
          case measure => simp [intOf]; omega
    · obtain rfl : i = n := by omega
      go_wp2
      go_ret
      exact ⟨A, c, ret_slice (by simp [upto_length]), by rw [upto_length]; exact hv, hx, by rw [upto_length]; exact hnw⟩

set_option maxHeartbeats 4000000 in
theorem rparts_n {n : Nat} {w : World} (hn : n ≤ 64) :
    Calls Tryd.prog 54 #[.int .i64 n] w (GivesL w (upto_ (stir n) (n + 1))) := by
  obtain ⟨i0, hi, hz0, hz1, hz2⟩ := info_parts info_nat
  go_enter Tryd.func54, Tryd.ntmps54
  go_wp2_with fail
  refine (rcof_e (m := 1) (by omega) (by omega)).mono ?_
  rintro e w1 ⟨A1, k1, c1, rfl, h1, x1, n1⟩
  have hl := OwnN.lit (e := 25) (base := w.heap.size) w1 x1.size h1 n1
  have hl2 := hl.nats
  have hx1 : Ext w (w1.alloc (.cells #[.slice A1 k1 c1] 25)) := ext_alloc x1 _
  clear hl n1 h1
  go_wp2
  generalize w1.alloc (.cells #[.slice A1 k1 c1] 25) = W1 at *
  go_loopw [3, 4] (fun ov iv wr => ∃ (i : Nat) (A : Option Addr) (c : Nat), i ≤ n ∧ iv = .int .i64 ((i : Int) + 1) ∧ ov = .slice A (i + 1) c ∧ NatsV w.heap.size wr (.slice A (i + 1) c) (upto_ (stir i) (i + 1)) ∧ Ext w wr ∧ New w.heap.size (.slice A (i + 1) c))
    (fun _ iv _ => n + 1 - (intOf iv).toNat)
  case atStart => exact ⟨0, _, 1, Nat.zero_le _, by go_num, rfl, hl2, hx1, New.at_ x1.size⟩
  case round =>
    obtain ⟨i, A, c, hin, rfl, rfl, hv, hx, hnw⟩ := hrel
    by_cases hik : i < n
    · have hdec : decide (((i : Int) + 1) ≤ (n : Int)) = true := by simp; omega
      have hl := OwnN.lit (e := 25) (base := wr.heap.size) (B := w.heap.size) wr (Nat.le_refl _) (CanV.nil_ wr) (New.nil_ _)
      have hx3 : Ext wr (wr.alloc (.cells #[.slice none 0 0] 25)) := ext_alloc (Below.refl _ _) _
      go_wp2
      generalize wr.alloc (.cells #[.slice none 0 0] 25) = W2 at *
      obtain ⟨wo, hwo⟩ : ∃ wo : World, wo = wr := ⟨_, rfl⟩
      subst hwo
      go_loopw [5, 6] (fun nv kv wr => ∃ (k : Nat) (us : List Value), 1 ≤ k ∧ k ≤ i + 2 ∧ kv = .int .i64 k ∧ OwnN 25 wo.heap.size w.heap.size wr nv us (upto_ (stir (i + 1)) k) ∧ Ext wo wr)
        (fun _ kv _ => i + 2 - (intOf kv).toNat)
      case atStart => exact ⟨1, _, Nat.le_refl _, by omega, rfl, hl, hx3⟩
      case round =>
        obtain ⟨k, us, hk1, hk2, rfl, hown, hxr⟩ := hrel
        have hlt := hown.1.lt
        have hUL := upto_length (stir (i + 1)) k
        by_cases hki : k < i + 2
        · obtain ⟨j, rfl⟩ : ∃ j, k = j + 1 := ⟨k - 1, by omega⟩
          obtain ⟨ad, A5, k5, c5, rfl, hb5, hc5, hn5, hq5⟩ := hv.at_ (k := j) (upto_at (by omega))
          have HF5 := Lib.hid (Far.old hn5 fun g hg => (hlt g hg).1)
          have hc5r := (hxr.cell (p := ad.add j) (by rw [block_of_add]; exact hb5)).trans hc5
          have HU := Lib.hid hUL
          have HOWN := Lib.hid hown
          have HB1 := Lib.hid (stir_len (n := i) (k := j) (by omega))
          have HN5 := Lib.hid (hn5.below hxr)
          have hw1 : IntKind.i64.wrap (j : Int) = (j : Int) := wrap_in (by omega)
          have hw2 : IntKind.i64.wrap ((j : Int) + 1) = (j : Int) + 1 := wrap_in (by omega)
          have hb1 : (j : Int) < (i : Int) + 1 := by omega
          clear hn5 hown hUL hlt hc5
          by_cases hlast : j < i
          · have hb2 : (j : Int) < (i : Int) := by omega
            have hb3 : (0 : Int) ≤ (j : Int) + 1 := by omega
            obtain ⟨ad', A6, k6, c6, he, hb6, hc6, hn6, _⟩ := hv.at_ (k := j + 1) (upto_at (by omega))
            injection he with he
            subst he
            have hc6r := (hxr.cell (p := ad.add (j + 1)) (by rw [block_of_add]; exact hb6)).trans hc6
            have HN6 := Lib.hid (hn6.below hxr)
            have HB2 := Lib.hid (stir_len (n := i) (k := j + 1) (by omega))
            have HB3 := Lib.hid (len_small (x := j + 1) (by omega))
            have HB4 := Lib.hid (limbsOf_length_mul (j + 1) (stir i (j + 1)))
            clear hn6 hc6
            go_upto_region 11 with (fail)
            have hbx : (wr.alloc (.cells #[.slice A5 k5 c5] 25)).cell? ⟨wr.heap.size, 0, none⟩ = some (.slice A5 k5 c5) ∧ (wr.alloc (.cells #[.slice A5 k5 c5] 25)).frozen? ⟨wr.heap.size, 0, none⟩ = false := by simp [go_sem]
            have hbz : wr.heap.size < (wr.alloc (.cells #[.slice A5 k5 c5] 25)).heap.size := by simp
            have hxW : Ext wr (wr.alloc (.cells #[.slice A5 k5 c5] 25)) := ext_alloc (Below.refl _ _) _
            have hb6r : (ad.add (j + 1)).block < wr.heap.size := World.block_lt_of_cell? _ _ hc6r
            generalize wr.alloc (.cells #[.slice A5 k5 c5] 25) = WX at *
            have hc6x := (hxW.cell (p := ad.add (j + 1)) hb6r).trans hc6r
            have hc6y : WX.cell? ⟨ad.block, ad.off + (j + 1), none⟩ = some (.slice A6 k6 c6) := by simpa [Addr.add] using hc6x
            obtain ⟨hbc, hbf⟩ := hbx
            have HS := Lib.hid (fun (w' : World) (h : Ext WX w') => (⟨(h.cell (p := ⟨wr.heap.size, 0, none⟩) hbz).trans hbc, (h.frozen (p := ⟨wr.heap.size, 0, none⟩) hbz).trans hbf, (h.cell (p := ⟨ad.block, ad.off + (j + 1), none⟩) (World.block_lt_of_cell? _ _ hc6y)).trans hc6y⟩ : w'.cell? ⟨wr.heap.size, 0, none⟩ = some (.slice A5 k5 c5) ∧ w'.frozen? ⟨wr.heap.size, 0, none⟩ = false ∧ w'.cell? ⟨ad.block, ad.off + (j + 1), none⟩ = some (.slice A6 k6 c6)))
            have HXW := Lib.hid hxW
            clear hxW hc5r hc6r hb6r
            go_region_law (first
              | (go_simp; go_at_call 52; (with_reducible refine (rcof_e (m := j + 1) (by omega) (by omega)).mono ?_); rintro e w7 ⟨A7, k7, c7, rfl, h7, x7, n7⟩; have e7 : Ext WX w7 := Ext.trans (by repeat first | assumption | exact Below.refl _ _ | refine ext_alloc ?_ _ | refine ext_drew ?_ | refine ext_set ?_ (by first | omega | (simp; done) | (simp; omega)) _) x7; obtain ⟨cc7, ff7, dd7⟩ := HS.out _ e7)
              | (go_simp; go_at_call 53; (with_reducible refine (rmul_n (NatV.below (CanV.nat h7 (fit_small (by omega))) (by repeat first | assumption | exact Below.refl _ _ | refine ext_alloc ?_ _ | refine ext_drew ?_ | refine ext_set ?_ (by first | omega | (simp; done) | (simp; omega)) _)) (NatV.below (CanV.nat HN6.out (by unfold Fit; have := HB2.out; omega)) (Ext.trans HXW.out (by repeat first | assumption | exact Below.refl _ _ | refine ext_alloc ?_ _ | refine ext_drew ?_ | refine ext_set ?_ (by first | omega | (simp; done) | (simp; omega)) _))) (by have := HB2.out; have := HB3.out; omega)).mono ?_); rintro e w8 ⟨A8, k8, c8, rfl, h8, x8, n8⟩; have e8 : Ext WX w8 := Ext.trans (by repeat first | assumption | exact Below.refl _ _ | refine ext_alloc ?_ _ | refine ext_drew ?_ | refine ext_set ?_ (by first | omega | (simp; done) | (simp; omega)) _) x8; obtain ⟨cc8, ff8, dd8⟩ := HS.out _ e8)
              | (go_simp; go_at_call 44; (with_reducible refine (radd_n (NatV.below (CanV.nat HN5.out (by unfold Fit; have := HB1.out; omega)) (Ext.trans HXW.out (by repeat first | assumption | exact Below.refl _ _ | refine ext_alloc ?_ _ | refine ext_drew ?_ | refine ext_set ?_ (by first | omega | (simp; done) | (simp; omega)) _))) (NatV.below (CanV.nat h8 (by unfold Fit; have := HB2.out; have := HB3.out; have := HB4.out; omega)) (by repeat first | assumption | exact Below.refl _ _ | refine ext_alloc ?_ _ | refine ext_drew ?_ | refine ext_set ?_ (by first | omega | (simp; done) | (simp; omega)) _)) (by have := HB1.out; omega) (by have := HB2.out; have := HB3.out; have := HB4.out; omega)).mono ?_); rintro e w9 ⟨A9, k9, c9, rfl, h9, x9, n9⟩; have e9 : Ext WX w9 := Ext.trans (by repeat first | assumption | exact Below.refl _ _ | refine ext_alloc ?_ _ | refine ext_drew ?_ | refine ext_set ?_ (by first | omega | (simp; done) | (simp; omega)) _) x9; obtain ⟨cc9, ff9, dd9⟩ := HS.out _ e9; have y8 := e8.size; have y9 := x9.size))
            all_goals
              have hcB : (w9.setCell ⟨wr.heap.size, 0, none⟩ (.slice A9 k9 c9)).cell? ⟨wr.heap.size, 0, none⟩ = some (.slice A9 k9 c9) := World.cell?_setCell_same _ _ _ cc9
              have hN9 := U32s.setNew h9 (n9.mono (B' := wr.heap.size + 1) (by first | omega | (simp; done) | (simp; omega))) (p := ⟨wr.heap.size, 0, none⟩) (Nat.lt_succ_self _) (.slice A9 k9 c9)
              have hxB : Ext wr (w9.setCell ⟨wr.heap.size, 0, none⟩ (.slice A9 k9 c9)) := ext_set (HXW.out.trans e9) (Nat.le_refl _) _
              have hn9 := n9.mono (B' := wr.heap.size + 1) (by first | omega | (simp; done) | (simp; omega))
              clear cc9 ff9 dd9 n9 h9 y8 y9 e9 x9
              generalize w9.setCell ⟨wr.heap.size, 0, none⟩ (.slice A9 k9 c9) = WB at *
              have hszB := hxB.size
              go_wp2_with (at_builtin; refine wpList_append_mine _ (by rfl) (.tmp 39) (.tmp 41) 51 (by rfl) wo.heap.size 25 i0 (.agg #[.slice none 0 0]) 1 24 Tryd.underlying51 hi hz0 hz1 hz2 rfl (by omega) _ _ _ (by rfl) (HOWN.out.ext (ext_alloc hxB _)).1 ⟨WB.heap.size, 0, none⟩ 1 1 [.slice A9 k9 c9] (by rfl) rfl (cell_one WB _ _) (by simp [Value.oneCell']) (by rw [HU.out]; unfold maxLen; omega) (by rw [HU.out]; omega) (by have := hxr.size; simp; omega) ?_; intro v10 w10 ho10 hg10 hw10)
              go_wp2
              go_roundw
              case rel => exact ⟨j + 2, us ++ [.slice A9 k9 c9], by omega, by omega, by go_num, by rw [upto_succ, stir_succ]; exact OwnN.grow HOWN.out (ext_alloc hxB _) (CanV.alloc hN9 _) (hn9.mono (by omega)) (Nat.le_trans hx.size hxr.size) ho10 hg10 hw10, OwnN.grow_ext HOWN.out hxr (ext_alloc hxB _) hg10⟩
              case measure => simp [intOf]; omega
          · obtain rfl : i = j := by omega
            have hxB : Ext wr (wr.alloc (.cells #[.slice A5 k5 c5] 25)) := ext_alloc (Below.refl _ _) _
            go_upto_region 12 with (fail)
            have hcB : (wr.alloc (.cells #[.slice A5 k5 c5] 25)).cell? ⟨wr.heap.size, 0, none⟩ = some (.slice A5 k5 c5) := by simp [go_sem]
            generalize wr.alloc (.cells #[.slice A5 k5 c5] 25) = WB at *
            have hszB := hxB.size
            go_wp2_with (at_builtin; refine wpList_append_mine _ (by rfl) (.tmp 39) (.tmp 41) 51 (by rfl) wo.heap.size 25 i0 (.agg #[.slice none 0 0]) 1 24 Tryd.underlying51 hi hz0 hz1 hz2 rfl (by omega) _ _ _ (by rfl) (HOWN.out.ext (ext_alloc hxB _)).1 ⟨WB.heap.size, 0, none⟩ 1 1 [.slice A5 k5 c5] (by rfl) rfl (cell_one WB _ _) (by simp [Value.oneCell']) (by rw [HU.out]; unfold maxLen; omega) (by rw [HU.out]; omega) (by have := hxr.size; simp; omega) ?_; intro v10 w10 ho10 hg10 hw10)
            go_wp2
            go_roundw
            case rel => exact ⟨i + 2, us ++ [.slice A5 k5 c5], by omega, by omega, by go_num, by rw [upto_succ, stir_top]; exact (HOWN.out.ext (ext_alloc hxB _)).push (CanV.alloc (HN5.out.below hxB) _) HF5.out hq5 ho10 hg10 hw10, OwnN.grow_ext HOWN.out hxr (ext_alloc hxB _) hg10⟩
            case measure => simp [intOf]; omega
        · obtain rfl : k = i + 2 := by omega
          have hN8 := hown.nats
          have hW8 : New w.heap.size u5 := fun b hb => Nat.le_trans hx.size (hown.1.lt b hb).1
          obtain ⟨A9, c9, rfl, _, _⟩ := hN8.form
          clear hown hlt
          rw [upto_length] at hN8 hW8 ⊢
          go_wp2
          go_roundw
          case rel => exact ⟨i + 1, A9, c9, by omega, by go_num, rfl, hN8, hx.trans hxr, hW8⟩
          case measure => simp [intOf]; omega
    · obtain rfl : i = n := by omega
      go_wp2
      go_ret
      exact ⟨A, c, ret_slice (by simp [upto_length]), by rw [upto_length]; exact hv, hx, by rw [upto_length]; exact hnw⟩

end Go.Proofs.YthikgbgmnlmmlaaDoor
