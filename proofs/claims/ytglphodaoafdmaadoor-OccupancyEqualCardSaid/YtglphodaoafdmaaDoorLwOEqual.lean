/- The walk of OccupancyEqual. -/
import Derived.Test.YtglphodaoafdmaaDoorOcW
import Derived.Test.YtglphodaoafdmaaDoorOcN
set_option linter.unusedVariables false
set_option linter.unusedSimpArgs false
set_option maxRecDepth 100000
namespace Go.Proofs.YtglphodaoafdmaaDoor
open Go.RowKit Num

/-- A row of n numbers, the first k of them written. -/
def rowI (f : Nat → Int) (n k : Nat) : List Int := (List.range n).map fun j => if j < k then f j else 0
theorem rowI_length (f : Nat → Int) (n k : Nat) : (rowI f n k).length = n := by simp [rowI]
theorem rowI_at {f : Nat → Int} {n k j : Nat} (h : j < n) : (rowI f n k)[j]? = some (if j < k then f j else 0) := by unfold rowI; rw [List.getElem?_map, List.getElem?_range h]; rfl
theorem rowI_zero (f : Nat → Int) (n : Nat) : rowI f n 0 = List.replicate n 0 := by
  apply List.ext_getElem?
  intro j
  by_cases h : j < n
  · rw [rowI_at h, List.getElem?_replicate, if_pos h]; rfl
  · rw [List.getElem?_eq_none (by rw [rowI_length]; omega), List.getElem?_eq_none (by simp; omega)]
theorem rowI_next {f : Nat → Int} {n k : Nat} (hk : k < n) : (rowI f n k).set k (f k) = rowI f n (k + 1) := by
  apply List.ext_getElem?
  intro j
  rw [List.getElem?_set]
  by_cases h : j < n
  · rw [rowI_at h, rowI_at h, rowI_length]
    by_cases e : k = j
    · subst e; rw [if_pos rfl, if_pos h, if_pos (by omega)]
    · rw [if_neg e]
      by_cases h2 : j < k
      · rw [if_pos h2, if_pos (by omega)]
      · rw [if_neg h2, if_neg (by omega)]
  · rw [List.getElem?_eq_none (l := rowI f n (k + 1)) (by rw [rowI_length]; omega), List.getElem?_eq_none (l := rowI f n k) (by rw [rowI_length]; omega), if_neg (by omega)]
theorem rowI_all (f : Nat → Int) (n : Nat) : rowI f n n = (List.range n).map f := List.map_congr_left fun j hj => if_pos (List.mem_range.1 hj)
theorem i64l_set (zs : List Int) (k : Nat) (z : Int) : (i64l zs).set k (.int .i64 z) = i64l (zs.set k z) := by unfold i64l; rw [List.map_set]
theorem i64l_zeros (n : Nat) : (madeCells #[Value.int .i64 0] n).toList = i64l (List.replicate n 0) := by
  refine List.ext_getElem (by simp [madeCells, Value.cells, i64l]) fun i h1 h2 => ?_
  simp [madeCells, Value.cells, i64l, Nat.mod_one]
theorem equal_row (zs : List Int) : rowI (fun _ => zs.getD 0 0) zs.length zs.length = List.replicate zs.length (zs.getD 0 0) := by
  rw [rowI_all]
  apply List.ext_getElem?
  intro j
  by_cases h : j < zs.length
  · rw [List.getElem?_map, List.getElem?_range h, List.getElem?_replicate, if_pos h]; rfl
  · rw [List.getElem?_eq_none (by simp; omega), List.getElem?_eq_none (by simp; omega)]
theorem back_row (zs : List Int) : rowI (fun j => zs.getD (zs.length - 1 - j) 0) zs.length zs.length = zs.reverse := by
  rw [rowI_all]
  apply List.ext_getElem?
  intro j
  by_cases h : j < zs.length
  · rw [List.getElem?_map, List.getElem?_range h, List.getElem?_reverse h, Option.map_some, List.getElem?_eq_getElem (by omega), List.getD_eq_getElem?_getD, List.getElem?_eq_getElem (by omega)]
    rfl
  · rw [List.getElem?_eq_none (by simp; omega), List.getElem?_eq_none (by simp; omega)]
theorem UsesIn.reverse {us : List Int} (h : UsesIn us) : UsesIn us.reverse := fun u hu => h u (by simpa using hu)
theorem UsesIn.equal {us : List Int} (h : UsesIn us) (hl : 1 ≤ us.length) : UsesIn (List.replicate us.length (us.getD 0 0)) := fun u hu => by
  obtain ⟨_, rfl⟩ := List.mem_replicate.1 hu
  exact h _ (getD_mem (by omega))
theorem unQ_fb {n : Nat} {us : List Int} (hn : n ≤ 30) (hu : UsesIn us) (hl1 : 1 ≤ us.length) (hl2 : us.length ≤ 12) : FB (unQ n us) 1000 := by
  obtain ⟨T, hTe, hTl⟩ := toNat_cast (fun u h => (hu u h).1)
  have hTb := isum_bd hu
  rw [hTe] at hTb
  have h := outAt_fb (n := n) (T := T) hn hu (fun u h => by rw [← hTe]; exact isum_mem (fun u h => (hu u h).1) u h) (by omega) (by omega) us.length (Nat.le_refl _)
  rw [show outAt n (T : Int) us us.length = unQ n us from by unfold unQ outAt; rw [hTe, List.take_of_length_le (Nat.le_refl _)]] at h
  exact h.mono (by omega)
theorem meanQ_fb {n D : Nat} (hn : n ≤ 30) (hD1 : 1 ≤ D) (hD : D ≤ 60) : FB (meanQ n D) 38 :=
  FB.mul (fb_i64 (by omega) (by omega)) (FB.sub one1_fb (powQ_fb (n := n) (less_small hD1 hD).1 (less_small hD1 hD).2 hn) (by omega)) (by omega)

/-- A row of int that the call made. -/
def OwnI (base : Nat) (w : World) (g n : Nat) (xs : List Int) : Prop := w.ownsRow base 3 1 (.slice (some ⟨g, 0, none⟩) n n) n (i64l xs)
theorem OwnI.ext {base g n : Nat} {w w' : World} {xs : List Int} (h : OwnI base w g n xs) (hE : Ext w w') : OwnI base w' g n xs :=
  World.ownsRow.kept h (Ext.grown hE) (.inr (by simp [Value.ownBlock]))
theorem OwnI.put {base g n k : Nat} {w : World} {xs : List Int} (h : OwnI base w g n xs) (z : Int) : OwnI base (w.setCell ⟨g, k, none⟩ (.int .i64 z)) g n (xs.set k z) := by
  have h1 := (World.ownsRow.stored h k (.int .i64 z)).1
  rw [i64l_set] at h1
  exact h1
theorem OwnI.away {base g g' n k : Nat} {w : World} {xs : List Int} (h : OwnI base w g n xs) {n' : Nat} {ys : List Int} (h' : OwnI base w g' n' ys) (hne : g ≠ g') (z : Value) : OwnI base (w.setCell ⟨g', k, none⟩ z) g n xs :=
  World.ownsRow.kept h (World.ownsRow.stored h' k z).2 (.inr (by simp [Value.ownBlock]; exact hne))
theorem OwnI.cell {base g n k : Nat} {w : World} {xs : List Int} (h : OwnI base w g n xs) (hl : xs.length = n) (hk : k < n) : ∃ z, w.cell? ⟨g, k, none⟩ = some (.int .i64 z) ∧ w.frozen? ⟨g, k, none⟩ = false :=
  ⟨xs.getD k 0, (World.ownsRow.cellAt h k (by omega)).trans (i64l_get xs (by omega)), World.ownsRow.frozenAt h k⟩

set_option maxHeartbeats 8000000 in
theorem law_OEqual {n : Int} {zs : List Int} {v : Value} {w : World} (hn : -9223372036854775808 ≤ n ∧ n ≤ 9223372036854775807) (hkv : KInts .i64 w v zs) (ht : Tab10 w) :
    Calls Tryd.prog 10 #[.int .i64 n, v] w (fun e w' => e = .returned (.bool true) ∧ Ext w w') := by
  have hv := hkv.ints
  obtain ⟨A, c, rfl, hc1, hc2, _⟩ := id hv
  have HT := Lib.hid (fun (w' : World) (h : Ext w w') => ht.ext h)
  have HV := Lib.hid (fun (w' : World) (h : Ext w w') => hv.below h)
  clear hkv hv
  by_cases hok : UsesIn zs ∧ 1 ≤ zs.length ∧ zs.length ≤ 12
  · obtain ⟨hu, hl1, hl2⟩ := hok
    have HU := Lib.hid hu
    obtain ⟨i0, hi, hz0, hz1, hz2⟩ := info_parts info_int
    clear hu
    go_enter Tryd.func10, Tryd.ntmps10
    go_wp2_with fail
    refine (oawake ht).mono ?_
    rintro e U0 ⟨rfl, V0⟩
    clear ht
    go_wp2_with fail
    refine (ruses_t (HV.out _ V0) HU.out hl1 hl2).mono ?_
    rintro e U1 ⟨rfl, rfl⟩
    go_wp2_with fail
    refine (mod_i (b := 31) (by omega) (by omega) hn).mono ?_
    rintro e U2 ⟨m, hm, rfl, rfl⟩
    have hm30 : m ≤ 30 := by omega
    go_upto_region 5 with (at_make; refine wpList_make_full _ rfl _ _ 57 rfl U2.heap.size 3 i0 (.int .i64 0) 1 Tryd.underlying57 hi hz0 hz1 _ _ _ _ zs.length rfl rfl (by omega) (by omega) ?b1 ?b2 ?b3 ?_)
    case b1 => rw [hz2]; omega
    case b2 => unfold maxLen; omega
    case b3 => exact Nat.le_refl _
    intro w4 hown hgrow
    rw [i64l_zeros, ← rowI_zero (fun _ => zs.getD 0 0)] at hown
    have hb4 : Ext U2 w4 := (Below.refl _ _).grown hgrow (Nat.le_refl _) (by simp)
    have hO1 : OwnI 0 w4 U2.heap.size zs.length (rowI (fun _ => zs.getD 0 0) zs.length 0) := ownsRow_base hown (Nat.zero_le _)
    have hg1 : U2.heap.size < w4.heap.size := by obtain ⟨z, hz, _⟩ := hO1.cell (rowI_length _ _ _) (k := 0) (by omega); exact World.block_lt_of_cell? _ _ hz
    clear hown hgrow
    go_upto_region 6 with (at_make; refine wpList_make_full _ rfl _ _ 57 rfl w4.heap.size 3 i0 (.int .i64 0) 1 Tryd.underlying57 hi hz0 hz1 _ _ _ _ zs.length rfl rfl (by omega) (by omega) ?b4 ?b5 ?b6 ?_)
    case b4 => rw [hz2]; omega
    case b5 => unfold maxLen; omega
    case b6 => exact Nat.le_refl _
    intro w5 hown hgrow
    rw [i64l_zeros, ← rowI_zero (fun j => zs.getD (zs.length - 1 - j) 0)] at hown
    have hb5 : Ext w4 w5 := (Below.refl _ _).grown hgrow (Nat.le_refl _) (by simp)
    have hO2 : OwnI 0 w5 w4.heap.size zs.length (rowI (fun j => zs.getD (zs.length - 1 - j) 0) zs.length 0) := ownsRow_base hown (Nat.zero_le _)
    have hO1 := hO1.ext hb5
    have hx5 := hb4.trans hb5
    obtain ⟨g1, hg1e⟩ : ∃ g1, g1 = U2.heap.size := ⟨_, rfl⟩
    rw [← hg1e] at hO1
    have hg1' : U2.heap.size ≤ g1 := by omega
    have hg2' : U2.heap.size ≤ w4.heap.size := by omega
    have hne : g1 ≠ w4.heap.size := by omega
    have HG1 := Lib.hid hg1e
    rw [show (Value.slice (some { block := U2.heap.size, off := 0, spot := none }) zs.length zs.length) = Value.slice (some ⟨g1, 0, none⟩) zs.length zs.length from by rw [hg1e]]
    clear hown hgrow hb4 hb5 hg1 hg1e
    generalize w4.heap.size = g2 at *
    go_wp2
    go_loopw [7] (fun iv wr => ∃ k : Nat, k ≤ zs.length ∧ iv = .int .i64 k ∧ OwnI 0 wr g1 zs.length (rowI (fun _ => zs.getD 0 0) zs.length k) ∧ OwnI 0 wr g2 zs.length (rowI (fun j => zs.getD (zs.length - 1 - j) 0) zs.length k) ∧ Ext U2 wr) (fun iv _ => zs.length - (intOf iv).toNat)
    case atStart => exact ⟨0, Nat.zero_le _, rfl, hO1, hO2, hx5⟩
    case round =>
      clear hO1 hO2 hx5
      obtain ⟨k, hk, rfl, hO1, hO2, hx⟩ := hrel
      by_cases hkn : k < zs.length
      · have H1 := Lib.hid hO1
        have H2 := Lib.hid hO2
        obtain ⟨b, o, rfl, hb, hc⟩ := (HV.out _ (V0.trans hx)).pl (k := 0) (by omega)
        rw [Nat.add_zero] at hc
        obtain ⟨z1, e1, f1⟩ := hO1.cell (rowI_length _ _ _) hkn
        obtain ⟨x, hxx⟩ : ∃ x, x = zs.getD 0 0 := ⟨_, rfl⟩
        rw [← hxx] at hc
        have HXX := Lib.hid hxx
        clear hxx
        have hi1 : (0 : Int) ≤ (k : Int) := by omega
        have hi2 : (k : Int) < (zs.length : Int) := by omega
        have hi3 : (0 : Int) < (zs.length : Int) := by omega
        have hi4 : 0 < zs.length := by omega
        clear hO1 hO2
        go_upto_region 10 with (fail)
        have hO1 := H1.out.put (k := k) x
        have hO2 := H2.out.away (k := k) H1.out (Ne.symm hne) (.int .i64 x)
        rw [HXX.out, rowI_next (f := fun _ => zs.getD 0 0) hkn, ← HXX.out] at hO1
        have hx2 : Ext U2 (wr.setCell ⟨g1, k, none⟩ (.int .i64 x)) := hx.setCell (p := ⟨g1, k, none⟩) hg1' _
        clear e1 f1 hc
        generalize wr.setCell ⟨g1, k, none⟩ (.int .i64 x) = WB at *
        have H1 := Lib.hid hO1
        have H2 := Lib.hid hO2
        obtain ⟨b2, o2, he, hb2, hc⟩ := (HV.out _ (V0.trans hx2)).pl (k := zs.length - 1 - k) (by omega)
        injection he with he
        injection he with he1 he2
        subst he1 he2
        obtain ⟨z2, e2, f2⟩ := hO2.cell (rowI_length _ _ _) hkn
        obtain ⟨y, hy⟩ : ∃ y, y = zs.getD (zs.length - 1 - k) 0 := ⟨_, rfl⟩
        rw [← hy] at hc
        obtain ⟨j, hj⟩ : ∃ j, j = zs.length - 1 - k := ⟨_, rfl⟩
        rw [← hj] at hc
        have hw1 : IntKind.i64.wrap ((zs.length : Int) - 1) = (zs.length : Int) - 1 := wrap_in (by omega)
        have hw2 : IntKind.i64.wrap ((zs.length : Int) - 1 - (k : Int)) = (j : Int) := by rw [wrap_in (by omega)]; omega
        have hj1 : (0 : Int) ≤ (j : Int) := by omega
        have hj2 : (j : Int) < (zs.length : Int) := by omega
        have HY := Lib.hid hy
        clear hO1 hO2 hy hj
        go_wp2
        have hO2 := H2.out.put (k := k) y
        have hO1 := H1.out.away (k := k) H2.out hne (.int .i64 y)
        rw [show y = (fun j => zs.getD (zs.length - 1 - j) 0) k from HY.out, rowI_next hkn] at hO2
        have hx3 : Ext U2 (WB.setCell ⟨g2, k, none⟩ (.int .i64 y)) := hx2.setCell (p := ⟨g2, k, none⟩) hg2' _
        go_roundw
        case rel => exact ⟨k + 1, by omega, by go_num, by rw [← HXX.out]; exact hO1, by rw [HY.out]; exact hO2, hx3⟩
        case measure => first | (simp [intOf]; done) | (simp [intOf]; omega)
      · obtain rfl : k = zs.length := by omega
        have hb1 : ¬ ((zs.length : Int) < (zs.length : Int)) := by omega
        rw [equal_row] at hO1
        rw [back_row] at hO2
        have HI1 := Lib.hid (fun (w' : World) (h : Ext wr w') => (IntsV.of_own hO1).below h)
        have HI2 := Lib.hid (fun (w' : World) (h : Ext wr w') => (IntsV.of_own hO2).below h)
        have HC1 := Lib.hid (fun (w' : World) (h : Ext wr w') (ht : Tab10 w') => (show Calls Tryd.prog 44 #[.int .i64 m, .slice (some ⟨g1, 0, none⟩) zs.length zs.length] w' (GivesFE w' (meanQ m zs.length)) from by
          have h1 := HI1.out _ h
          have h2 := ounequal_ok (n := m) (us := List.replicate zs.length (zs.getD 0 0)) (A := some ⟨g1, 0, none⟩) (c := zs.length) (w := w') hm30 (by rw [List.length_replicate]; exact h1) (HU.out.equal hl1) (by rw [List.length_replicate]; exact hl1) (by rw [List.length_replicate]; exact hl2) ht
          rw [List.length_replicate, unQ_equal (HU.out _ (getD_mem (by omega))).1 hl1] at h2
          exact h2))
        have HC4 := Lib.hid (fun (w' : World) (h : Ext wr w') (ht : Tab10 w') => (show Calls Tryd.prog 44 #[.int .i64 m, .slice (some ⟨g2, 0, none⟩) zs.length zs.length] w' (GivesFE w' (unQ m zs)) from by
          have h1 := HI2.out _ h
          have h2 := ounequal_ok (n := m) (us := zs.reverse) (A := some ⟨g2, 0, none⟩) (c := zs.length) (w := w') hm30 (by rw [List.length_reverse]; exact h1) HU.out.reverse (by rw [List.length_reverse]; exact hl1) (by rw [List.length_reverse]; exact hl2) ht
          rw [List.length_reverse, unQ_reverse] at h2
          exact h2))
        have HFM := Lib.hid (meanQ_fb (n := m) (D := zs.length) hm30 hl1 (by omega))
        have HFU := Lib.hid (unQ_fb (n := m) hm30 HU.out hl1 hl2)
        obtain ⟨z, hz⟩ : ∃ z, cmpQ (unQ m zs) (meanQ m zs.length) = z := ⟨_, rfl⟩
        have hzl : z ≤ 0 := by
          have h1 : ¬ 0 < cmpQ (unQ m zs) (meanQ m zs.length) := by
            rw [cmpQ_pos]
            have := unQ_le (n := m) (fun u h => (HU.out u h).1) hl1
            grind
          omega
        have HZ := Lib.hid hz
        have HZ0 := Lib.hid ((cmpQ_zero (meanQ m zs.length) (meanQ m zs.length)).2 rfl)
        have HX := Lib.hid (V0.trans hx)
        clear hO1 hO2 hz hz0 hz1 hz2 hi
        go_wp2_with fail
        refine (HC1.out _ (Below.refl _ _) (HT.out _ HX.out)).mono ?_
        rintro e w1 ⟨b1, A1, k1, c1, A1', k1', c1', rfl, h1, y1, n1, n1'⟩
        clear n1 n1'
        go_upto_region 12 with (fail)
        have hG1 := FBox.new w1 (.bool b1) (.slice A1 k1 c1) (.slice A1' k1' c1') 31
        have Y1 : Ext wr (w1.alloc (.cells #[.bool b1, .slice A1 k1 c1, .slice A1' k1' c1'] 31)) := ext_alloc y1 _
        have h1 := h1.below (ext_alloc (Below.refl _ _) (.cells #[.bool b1, .slice A1 k1 c1, .slice A1' k1' c1'] 31))
        have hsz1 : w1.heap.size < (w1.alloc (.cells #[.bool b1, .slice A1 k1 c1, .slice A1' k1' c1'] 31)).heap.size := by simp
        generalize w1.alloc (.cells #[.bool b1, .slice A1 k1 c1, .slice A1' k1' c1'] 31) = W1 at *
        generalize w1.heap.size = B1 at *
        have HG1 := Lib.hid (fun (w' : World) (h : Ext W1 w') => hG1.below h)
        have HP1 := Lib.hid (fun (w' : World) (h : Ext W1 w') => FracV.any (h1.below h) (HFM.out) (by omega))
        have HB1 := Lib.hid (fun (w' : World) (h : Ext W1 w') => h1.below h)
        clear hG1 h1 y1 hsz1
        go_wp2_with fail
        refine (omean_ok (n := m) (D := zs.length) hm30 hl1 (by omega) (HT.out _ (HX.out.trans Y1))).mono ?_
        rintro e w2 ⟨b2, A2, k2, c2, A2', k2', c2', rfl, h2, y2, n2, n2'⟩
        clear n2 n2'
        go_upto_region 13 with (fail)
        have hG2 := FBox.new w2 (.bool b2) (.slice A2 k2 c2) (.slice A2' k2' c2') 31
        have Y2 : Ext W1 (w2.alloc (.cells #[.bool b2, .slice A2 k2 c2, .slice A2' k2' c2'] 31)) := ext_alloc y2 _
        have h2 := h2.below (ext_alloc (Below.refl _ _) (.cells #[.bool b2, .slice A2 k2 c2, .slice A2' k2' c2'] 31))
        have hsz2 : w2.heap.size < (w2.alloc (.cells #[.bool b2, .slice A2 k2 c2, .slice A2' k2' c2'] 31)).heap.size := by simp
        generalize w2.alloc (.cells #[.bool b2, .slice A2 k2 c2, .slice A2' k2' c2'] 31) = W2 at *
        generalize w2.heap.size = B2 at *
        have HG2 := Lib.hid (fun (w' : World) (h : Ext W2 w') => hG2.below h)
        have HP2 := Lib.hid (fun (w' : World) (h : Ext W2 w') => FracV.any (h2.below h) (HFM.out) (by omega))
        have HB2 := Lib.hid (fun (w' : World) (h : Ext W2 w') => h2.below h)
        clear hG2 h2 y2 hsz2
        go_wp2_with fail
        refine (ounequal_ok (n := m) hm30 (HV.out _ (HX.out.trans (Y1.trans Y2))) HU.out hl1 hl2 (HT.out _ (HX.out.trans (Y1.trans Y2)))).mono ?_
        rintro e w3 ⟨b3, A3, k3, c3, A3', k3', c3', rfl, h3, y3, n3, n3'⟩
        clear n3 n3'
        go_upto_region 14 with (fail)
        have hG3 := FBox.new w3 (.bool b3) (.slice A3 k3 c3) (.slice A3' k3' c3') 31
        have Y3 : Ext W2 (w3.alloc (.cells #[.bool b3, .slice A3 k3 c3, .slice A3' k3' c3'] 31)) := ext_alloc y3 _
        have h3 := h3.below (ext_alloc (Below.refl _ _) (.cells #[.bool b3, .slice A3 k3 c3, .slice A3' k3' c3'] 31))
        have hsz3 : w3.heap.size < (w3.alloc (.cells #[.bool b3, .slice A3 k3 c3, .slice A3' k3' c3'] 31)).heap.size := by simp
        generalize w3.alloc (.cells #[.bool b3, .slice A3 k3 c3, .slice A3' k3' c3'] 31) = W3 at *
        generalize w3.heap.size = B3 at *
        have HG3 := Lib.hid (fun (w' : World) (h : Ext W3 w') => hG3.below h)
        have HP3 := Lib.hid (fun (w' : World) (h : Ext W3 w') => FracV.any (h3.below h) (HFU.out) (by omega))
        have HB3 := Lib.hid (fun (w' : World) (h : Ext W3 w') => h3.below h)
        clear hG3 h3 y3 hsz3
        go_wp2_with fail
        refine (HC4.out _ (Y1.trans (Y2.trans Y3)) (HT.out _ (HX.out.trans (Y1.trans (Y2.trans Y3))))).mono ?_
        rintro e w4 ⟨b4, A4, k4, c4, A4', k4', c4', rfl, h4, y4, n4, n4'⟩
        clear n4 n4'
        go_upto_region 15 with (fail)
        have hG4 := FBox.new w4 (.bool b4) (.slice A4 k4 c4) (.slice A4' k4' c4') 31
        have Y4 : Ext W3 (w4.alloc (.cells #[.bool b4, .slice A4 k4 c4, .slice A4' k4' c4'] 31)) := ext_alloc y4 _
        have h4 := h4.below (ext_alloc (Below.refl _ _) (.cells #[.bool b4, .slice A4 k4 c4, .slice A4' k4' c4'] 31))
        have hsz4 : w4.heap.size < (w4.alloc (.cells #[.bool b4, .slice A4 k4 c4, .slice A4' k4' c4'] 31)).heap.size := by simp
        generalize w4.alloc (.cells #[.bool b4, .slice A4 k4 c4, .slice A4' k4' c4'] 31) = W4 at *
        generalize w4.heap.size = B4 at *
        have HG4 := Lib.hid (fun (w' : World) (h : Ext W4 w') => hG4.below h)
        have HP4 := Lib.hid (fun (w' : World) (h : Ext W4 w') => FracV.any (h4.below h) (HFU.out) (by omega))
        have HB4 := Lib.hid (fun (w' : World) (h : Ext W4 w') => h4.below h)
        clear hG4 h4 y4 hsz4
        have E3 : Ext W3 W4 := Y4
        have E2 : Ext W2 W4 := Y3.trans E3
        have E1 : Ext W1 W4 := Y2.trans E2
        have HC := Lib.hid (fun (w' : World) (h : Ext W4 w') => (⟨HG1.out _ (E1.trans h), HG2.out _ (E2.trans h), HG3.out _ (E3.trans h), HG4.out _ h⟩ : _ ∧ _ ∧ _ ∧ _))
        obtain ⟨⟨p0, p1, p2, _, _, _⟩, ⟨q0, q1, q2, _, _, _⟩, ⟨r0, r1, r2, _, _, _⟩, s0, s1, s2, _, _, _⟩ := HC.out _ (Below.refl _ _)
        have f0 : Ext W4 W4 := Below.refl _ _
        go_wp2_with (first
          | (go_at_call 24; (with_reducible refine (cmp_e (HP1.out _ (E1.trans f0)) (HP2.out _ (E2.trans f0)) (by omega) HZ0.out).mono ?_); rintro _ s4' ⟨rfl, z7⟩; have f0 := Ext.trans f0 z7; obtain ⟨⟨p0, p1, p2, _, _, _⟩, ⟨q0, q1, q2, _, _, _⟩, ⟨r0, r1, r2, _, _, _⟩, s0, s1, s2, _, _, _⟩ := HC.out _ f0)
          | (go_at_call 24; (with_reducible refine (cmp_e (HP3.out _ (E3.trans f0)) (HP2.out _ (E2.trans f0)) (by omega) HZ.out).mono ?_); rintro _ s5' ⟨rfl, z7⟩; have f0 := Ext.trans f0 z7; obtain ⟨⟨p0, p1, p2, _, _, _⟩, ⟨q0, q1, q2, _, _, _⟩, ⟨r0, r1, r2, _, _, _⟩, s0, s1, s2, _, _, _⟩ := HC.out _ f0)
          | (go_at_call 33; (with_reducible refine (bfrac_same (HB3.out _ (E3.trans f0)) (HB4.out _ f0)).mono ?_); rintro _ s6' ⟨rfl, z7⟩; have f0 := Ext.trans f0 z7))
        go_ret
        exact ⟨rfl, HX.out.trans (Y1.trans (E1.trans f0))⟩
  · have HO := Lib.hid hok
    clear hok
    go_enter Tryd.func10, Tryd.ntmps10
    go_wp2_with fail
    refine (oawake ht).mono ?_
    rintro e W0 ⟨rfl, V0⟩
    clear ht
    go_wp2_with fail
    refine (ruses_f (HV.out _ V0) HO.out).mono ?_
    rintro e W1 ⟨rfl, rfl⟩
    go_wp2_with fail
    refine (oawake (HT.out _ V0)).mono ?_
    rintro e W2 ⟨rfl, V2⟩
    go_wp2
    go_ret
    exact ⟨rfl, V0.trans V2⟩

end Go.Proofs.YtglphodaoafdmaaDoor
