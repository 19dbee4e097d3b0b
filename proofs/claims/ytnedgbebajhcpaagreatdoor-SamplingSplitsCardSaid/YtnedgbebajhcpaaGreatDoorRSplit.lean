/- The reference's Split. -/
import Derived.Test.YtnedgbebajhcpaaGreatDoorRGain
import Derived.Test.YtnedgbebajhcpaaGreatDoorRAlloc
import Derived.Test.YtnedgbebajhcpaaGreatDoorRCmp
set_option linter.unusedVariables false
set_option linter.unusedSimpArgs false
set_option maxRecDepth 100000
namespace Go.Proofs.YtnedgbebajhcpaaGreatDoor
open Go.RowKit Num

theorem info_fl : (Tryz.prog.info? 55).map (fun i => (i.zero, i.size, i.bytes)) = some (some (.slice none 0 0), 1, 24) := by kernel_rfl
theorem rsplit_arg {us : List Int} {m : Int} {A : Option Addr} {c : Nat} {w : World} (hu : ¬ (PlanIn us ∧ 1 ≤ us.length ∧ us.length ≤ 4)) (hv : IntsV w (.slice A us.length c) us) :
    Calls Tryz.prog 11 #[.slice A us.length c, .int .i64 m] w (GivesIL w [] 1) := by
  have HV := Lib.hid hv
  have HU := Lib.hid hu
  clear hu hv
  go_enter Tryz.func11, Tryz.ntmps11
  go_wp2_with (go_at_call 33; (with_reducible refine (rplan_f HV.out HU.out).mono ?_); rintro e w1 ⟨rfl, rfl⟩)
  go_ret2
  exact ⟨none, 0, rfl, IntsV.nil_ _, Below.refl _ _⟩
theorem rsplit_no {us : List Int} {m : Int} {A : Option Addr} {c : Nat} {w : World} (hu : PlanIn us ∧ 1 ≤ us.length ∧ us.length ≤ 4) (hm : m < 0 ∨ 12 < m) (hv : IntsV w (.slice A us.length c) us) :
    Calls Tryz.prog 11 #[.slice A us.length c, .int .i64 m] w (GivesIL w [] 2) := by
  have HV := Lib.hid hv
  have HU := Lib.hid hu
  have HM := Lib.hid hm
  clear hu hv hm
  go_enter Tryz.func11, Tryz.ntmps11
  go_wp2_with (first
    | (go_at_call 33; (with_reducible refine (rplan_t HV.out HU.out.1 HU.out.2.1 HU.out.2.2).mono ?_); rintro e w1 ⟨rfl, rfl⟩)
    | (go_at_call 23; (with_reducible refine (rin_f (n := m) HM.out).mono ?_); rintro e w1 ⟨rfl, rfl⟩))
  go_ret2
  exact ⟨none, 0, rfl, IntsV.nil_ _, Below.refl _ _⟩

/-- The means of a series. -/
def mrow (D : List Nat) (m i : Nat) : List Rat := uptoQ (fun n => meanQ n (at0 D i)) (m + 1)
def mtab (D : List Nat) (m k : Nat) : List (List Rat) := (List.range k).map (mrow D m)
theorem mtab_succ (D : List Nat) (m k : Nat) : mtab D m (k + 1) = mtab D m k ++ [mrow D m k] := by simp [mtab, List.range_succ]
theorem mtab_length (D : List Nat) (m k : Nat) : (mtab D m k).length = k := by simp [mtab]
theorem mtab_at {D : List Nat} {m k n : Nat} (h : k < n) : (mtab D m n)[k]? = some (mrow D m k) := by unfold mtab; rw [List.getElem?_map, List.getElem?_range h]; rfl
def RP (w : World) (u : Value) (qs : List Rat) : Prop := FracsV 0 w u qs
/-- The best one of the first i. -/
def stq (D : List Nat) (L : List (List Nat)) (i : Nat) : List Nat × Rat := (L.take i).foldl (better (gl D)) ([], -1)
theorem stq_succ {D : List Nat} {L : List (List Nat)} {i : Nat} {l : List Nat} (h : L[i]? = some l) : stq D L (i + 1) = better (gl D) (stq D L i) l := by
  unfold stq
  rw [List.take_add_one, h, List.foldl_append]
  rfl
theorem stq_all {D : List Nat} {m : Nat} : stq D (allocs (D.length - 1) m) (allocs (D.length - 1) m).length = bestL D m := by
  unfold stq bestL
  rw [List.take_length]
theorem stq_first {D : List Nat} {L : List (List Nat)} {l : List Nat} (hD : ∀ d ∈ D, 1 ≤ d) (h : L[0]? = some l) : stq D L (0 + 1) = (l, gl D l) := by
  rw [stq_succ h]
  have := gl_nonneg (l := l) hD
  exact if_pos (show (-1 : Rat) < gl D l by grind)
theorem rplan_n {D : List Nat} {n c : Nat} {A : Option Addr} {w : World} (hD : PlanN D) (hDn : D.length = n) (hv : IntsV w (.slice A n c) (natsS D)) :
    Calls Tryz.prog 33 #[.slice A n c] w (fun e w' => e = .returned (.bool true) ∧ w' = w) := by
  have hp := planN_in hD
  have h := rplan_t (A := A) (c := c) (w := w) (us := natsS D) (by rw [natsS_length, hDn]; exact hv) hp.2 hp.1.1 hp.1.2
  rw [natsS_length, hDn] at h
  exact h
theorem ralloc_l {n m : Nat} {w : World} (h1 : 1 ≤ n) (h4 : n ≤ 4) (hm : m ≤ 12) : Calls Tryz.prog 34 #[.int .i64 n, .int .i64 m] w (GivesLL w ((allocs (n - 1) m).map natsS)) := by
  have h := ralloc_n (n - 1) m w (by omega) hm
  rw [show ((n - 1 : Nat) : Int) + 1 = (n : Int) from by omega] at h
  exact h
/-- The best one so far and its gain, as Split keeps them. -/
def StB (B X : Nat) (D : List Nat) (L : List (List Nat)) (n i : Nat) (bv : Value) (wr : World) : Prop :=
  (∃ c A k l A' k' l', FBox wr X (.bool c) (.slice A k l) (.slice A' k' l') ∧ (0 < i → FracV wr c (.slice A k l) (.slice A' k' l') (stq D L i).2 ∧ FB (stq D L i).2 200)) ∧
  (0 < i → ∃ A' c', bv = .slice A' n c' ∧ IntsV wr (.slice A' n c') (natsS (stq D L i).1))

set_option maxHeartbeats 32000000 in
theorem rsplit_ok {D : List Nat} {n m c : Nat} {A : Option Addr} {w : World} (hD : PlanN D) (hDn : D.length = n) (hm : m ≤ 12) (hv : IntsV w (.slice A n c) (natsS D)) :
    Calls Tryz.prog 11 #[.slice A n c, .int .i64 m] w (fun e w' => ∃ A' c', e = .returned (.tuple #[.slice A' n c', .int .i64 0]) ∧ IntsV w' (.slice A' n c') (natsS (bestL D m).1) ∧ Ext w w') := by
  have HPL := Lib.hid (rplan_n hD hDn hv)
  have HV := Lib.hid (fun (w' : World) (h : Ext w w') => hv.below h)
  have HDD := Lib.hid hD
  have HDN := Lib.hid hDn
  have hn1 : 1 ≤ n := by have := hD.1.1; omega
  have hn4 : n ≤ 4 := by have := hD.1.2; omega
  have HAL := Lib.hid (fun (w' : World) => ralloc_l (w := w') hn1 hn4 hm)
  obtain ⟨i0, hi, hz0, hz1, hz2⟩ := info_parts info_frac
  obtain ⟨i1, hj, hy0, hy1, hy2⟩ := info_parts info_fl
  clear hv hD hDn
  go_enter Tryz.func11, Tryz.ntmps11
  go_upto_region 5 with (first
    | (go_at_call 33; (with_reducible refine HPL.out.mono ?_); rintro e w1 ⟨rfl, hw1⟩; obtain rfl : w = w1 := hw1.symm)
    | (go_at_call 23; (with_reducible refine (rin_t (n := (m : Int)) (by omega) (by omega)).mono ?_); rintro e w1 ⟨rfl, hw1⟩; obtain rfl : w = w1 := hw1.symm))
  go_wp2
  go_loopw [6, 7] (fun mv iv wr => ∃ i : Nat, i ≤ n ∧ iv = .int .i64 i ∧ OwnX RP 55 w.heap.size wr mv (mtab D m i) ∧ Ext w wr) (fun _ iv _ => n - (intOf iv).toNat)
  case atStart => exact ⟨0, Nat.zero_le _, rfl, ⟨[], OwnP.nil_ _ _ _ _⟩, Below.refl _ _⟩
  case round =>
    obtain ⟨i, hin, rfl, hO, hX⟩ := hrel
    by_cases hlt : i < n
    · obtain ⟨b, o, rfl, hb, hc⟩ := (HV.out _ hX).plS (k := i) (by rw [natsS_length, HDN.out]; exact hlt)
      rw [getD_natsS (by rw [HDN.out]; exact hlt)] at hc
      have hdd := HDD.out.2 _ (at0_mem (l := D) (i := i) (by rw [HDN.out]; exact hlt))
      obtain ⟨y, hy⟩ : ∃ y, y = at0 D i := ⟨_, rfl⟩
      have HYD := Lib.hid hy
      rw [← hy] at hc hdd
      have hil : (i : Int) < (n : Int) := by omega
      have hi0 : (0 : Int) ≤ (i : Int) := by omega
      have hwi : IntKind.i64.wrap ((i : Int) + 1) = (i : Int) + 1 := wrap_in (by omega)
      have HO := Lib.hid hO
      obtain ⟨wo, hwo⟩ : ∃ wo : World, wo = wr := ⟨_, rfl⟩
      subst hwo
      have HCL := Lib.hid (fun (w' : World) (h : Ext wo w') => ((h.cell (p := ⟨b, o + i, none⟩) hb).trans hc : w'.cell? ⟨b, o + i, none⟩ = some (.int .i64 y)))
      clear hy hO hc
      go_wp2
      go_loopw [8, 9] (fun rv nv wr => ∃ (k : Nat) (ts : List Fc), k ≤ m + 1 ∧ nv = .int .i64 k ∧ OwnF 27 wo.heap.size wo.heap.size wr rv ts (uptoQ (fun n => meanQ n y) k) ∧ Ext wo wr) (fun _ nv _ => m + 1 - (intOf nv).toNat)
      case atStart => exact ⟨0, [], Nat.zero_le _, rfl, OwnF.nil_ _ _ _ _, Below.refl _ _⟩
      case round =>
        obtain ⟨k, ts, hk, rfl, hown, hx⟩ := hrel
        by_cases hkm : k < m + 1
        · have hk1 : (k : Int) ≤ (m : Int) := by omega
          have hk0 : (0 : Int) ≤ (k : Int) := by omega
          have hwk : IntKind.i64.wrap ((k : Int) + 1) = (k : Int) + 1 := wrap_in (by omega)
          have HU := Lib.hid (uptoQ_length (fun n => meanQ n y) k)
          have HOWN := Lib.hid hown
          have hcl := HCL.out _ hx
          have hgs := hx.size
          have hws := hX.size
          clear hown
          go_wp2_with fail
          refine (rmean_ok (n := k) (D := y) (by omega) hdd.1 hdd.2).mono ?_
          rintro e w1 ⟨b1, A1, k1, c1, A1', k1', c1', rfl, h1, y1, n1, n1'⟩
          go_upto_region 14 with (fail)
          have hG1 := FBox.new w1 (.bool b1) (.slice A1 k1 c1) (.slice A1' k1' c1') 27
          have Y1 : Ext wr (w1.alloc (.cells #[.bool b1, .slice A1 k1 c1, .slice A1' k1' c1'] 27)) := ext_alloc y1 _
          have h1 := h1.below (ext_alloc (Below.refl _ _) (.cells #[.bool b1, .slice A1 k1 c1, .slice A1' k1' c1'] 27))
          have hsz1 : w1.heap.size < (w1.alloc (.cells #[.bool b1, .slice A1 k1 c1, .slice A1' k1' c1'] 27)).heap.size := by simp
          generalize w1.alloc (.cells #[.bool b1, .slice A1 k1 c1, .slice A1' k1' c1'] 27) = W1 at *
          generalize w1.heap.size = B1 at *
          obtain ⟨p0, p1, p2, _, _, _⟩ := hG1
          have hY1 := Y1.size
          go_wp2_with (at_builtin; refine wpList_append_mine _ (by rfl) (.tmp 44) (.tmp 46) 55 (by rfl) wo.heap.size 27 i0 (.agg #[.bool false, .slice none 0 0, .slice none 0 0]) 3 56 Tryz.underlying55 hi hz0 hz1 hz2 rfl (by omega) _ _ _ (by rfl) (HOWN.out.ext (ext_alloc Y1 _)).1.1 ⟨W1.heap.size, 0, none⟩ 1 1 [.bool b1, .slice A1 k1 c1, .slice A1' k1' c1'] (by rfl) rfl (cell_three W1 _ _ _ _) (by simp [Value.oneCell']) (by rw [HU.out]; unfold maxLen; omega) (by rw [HU.out]; omega) (by simp; omega) ?_; intro v8 w8 ho8 hg8 hw8)
          have hO8 : OwnF 27 wo.heap.size wo.heap.size w8 v8 (ts ++ [⟨b1, .slice A1 k1 c1, .slice A1' k1' c1'⟩]) (uptoQ (fun n => meanQ n y) (k + 1)) := by
            rw [uptoQ_succ]; exact OwnF.grow (t := ⟨b1, .slice A1 k1 c1, .slice A1' k1' c1'⟩) HOWN.out (ext_alloc Y1 _) (h1.below (ext_alloc (Below.refl _ _) _)) n1 n1' hx.size ho8 hg8 hw8
          have hx8 : Ext wo w8 := OwnF.grow_ext HOWN.out hx (ext_alloc Y1 _) hg8
          clear ho8 hg8 hw8 HOWN h1 n1 n1'
          go_wp2
          go_roundw
          case rel => first | exact ⟨k + 1, _, by omega, by go_num, hO8, hx8⟩ | exact ⟨k + 1, _, by omega, by go_num, hO8⟩
          case measure => simp [intOf]; omega
        · obtain rfl : k = m + 1 := by omega
          have hkk : ¬ (((m + 1 : Nat) : Int) ≤ (m : Int)) := by omega
          have hkk2 : ¬ ((m : Int) + 1 ≤ (m : Int)) := by omega
          have hF := hown.fracs
          have hN : New wo.heap.size _ := fun b hb => (hown.1.1.lt b hb).1
          obtain ⟨A9, c9, rfl, _, _⟩ := hF.form
          rw [uptoQ_length] at hF hN
          obtain ⟨us, hO⟩ := HO.out
          have HML := Lib.hid (mtab_length D m i)
          have HOP := Lib.hid hO
          have hgs := hx.size
          have hws := hX.size
          rw [uptoQ_length]
          have hfr : ∀ w', (wr.alloc (.cells #[.slice A9 (m + 1) c9] 55)).grownBy w' u6.ownBlock → RP w' (.slice A9 (m + 1) c9) (mrow D m i) := fun w' hg => by
            have h1 := FracsV.grown (hF.ext (ext_alloc (Below.refl _ _) _)) hN hg (fun g hg => (hO.1.lt g hg).2)
            have h2 := h1.mono (Nat.zero_le _)
            unfold RP mrow
            rw [← HYD.out]
            exact h2
          clear hown hO
          go_wp2_with (at_builtin; refine wpList_append_mine _ (by rfl) (.tmp 48) (.tmp 50) 54 (by rfl) w.heap.size 55 i1 (.slice none 0 0) 1 24 Tryz.underlying54 hj hy0 hy1 hy2 rfl (by omega) _ _ _ (by rfl) (HOP.out.ext (hx.trans (ext_alloc (Below.refl _ _) _))).1 ⟨wr.heap.size, 0, none⟩ 1 1 [.slice A9 (m + 1) c9] (by rfl) rfl (cell_one wr _ _) (by simp [Value.oneCell']) (by rw [HML.out]; unfold maxLen; omega) (by rw [HML.out]; omega) (by simp; omega) ?_; intro v10 w10 ho10 hg10 hw10)
          have hpush := OwnP.push HOP.out (x := mrow D m i) (hx.trans (ext_alloc (Below.refl _ _) (.cells #[.slice A9 (m + 1) c9] 55))) hfr ho10 hg10 hw10
          have hext := OwnP.grow_ext (W := w) HOP.out hX (hx.trans (ext_alloc (Below.refl _ _) (.cells #[.slice A9 (m + 1) c9] 55))) hg10
          rw [← mtab_succ] at hpush
          have HPU := Lib.hid (show OwnX RP 55 w.heap.size w10 v10 (mtab D m (i + 1)) from ⟨_, hpush⟩)
          clear hpush hfr hF hN ho10 hg10 hw10
          go_wp2
          go_roundw
          case rel => first | exact ⟨i + 1, by omega, by go_num, HPU.out, hext⟩ | exact ⟨i + 1, by omega, by go_num, HPU.out⟩
          case measure => simp [intOf]; omega
    · obtain rfl : i = n := by omega
      have hii : ¬ ((i : Int) < (i : Int)) := by omega
      obtain ⟨us, hO⟩ := hO
      have hL := hO.list
      obtain ⟨AM, cM, rfl, _, _⟩ := hL.form
      rw [mtab_length] at hL ⊢
      have HML := Lib.hid (fun (w' : World) (h : Ext wr w') => hL.ext h)
      clear hO hL hi hz0 hz1 hz2 hj hy0 hy1 hy2
      go_wp2_with fail
      refine (HAL.out _).mono ?_
      rintro e w5 ⟨A5, n5, c5, rfl, hn5, hL5, x5⟩
      have hn5b : n5 ≤ 9223372036854775807 := by
        obtain ⟨_, _, _, h1, h2⟩ := hL5.form
        omega
      rw [List.length_map] at hn5
      have HL5 := Lib.hid (fun (w' : World) (h : Ext w5 w') => hL5.ext h)
      have HN5 := Lib.hid hn5
      have X5 := hX.trans x5
      clear hL5 hn5
      go_upto_region 19 with (fail)
      have bX := FBox.new w5 (.bool false) (.slice none 0 0) (.slice none 0 0) 27
      have x6 : Ext w5 (w5.alloc (.cells #[.bool false, .slice none 0 0, .slice none 0 0] 27)) := ext_alloc (Below.refl _ _) _
      generalize w5.alloc (.cells #[.bool false, .slice none 0 0, .slice none 0 0] 27) = W6 at *
      obtain ⟨X, hXe⟩ : ∃ X, X = w5.heap.size := ⟨_, rfl⟩
      rw [← hXe] at bX ⊢
      have hXw : w5.heap.size ≤ X := by omega
      clear hXe
      go_wp2
      go_loopw [13, 15] (fun bv iv wr => ∃ j : Nat, j ≤ n5 ∧ iv = .int .i64 j ∧ Hid (StB w5.heap.size X D (allocs (i - 1) m) i j bv wr) ∧ Ext w5 wr) (fun _ iv _ => n5 - (intOf iv).toNat)
      case atStart => exact ⟨0, Nat.zero_le _, rfl, Lib.hid ⟨⟨_, _, _, _, _, _, _, bX, fun h => absurd h (Nat.lt_irrefl _)⟩, fun h => absurd h (Nat.lt_irrefl _)⟩, x6⟩
      case round =>
        clear bX x6
        obtain ⟨j, hj5, rfl, HST, hXr⟩ := hrel
        by_cases hjn : j < n5
        · have hji : (j : Int) < (n5 : Int) := by omega
          have hj0 : (0 : Int) ≤ (j : Int) := by omega
          have hwsz := X5.size
          obtain ⟨l, hl⟩ : ∃ l, (allocs (i - 1) m)[j]? = some l := ⟨_, List.getElem?_eq_getElem (by rw [← HN5.out]; exact hjn)⟩
          obtain ⟨hlm, hls⟩ := mem_allocs.1 (List.mem_of_getElem? hl)
          have hlen : l.length = i := by omega
          have hlx : ∀ x ∈ l, x ≤ m := fun x hx => by have := mem_le_sum hx; omega
          obtain ⟨ba, oa, ua, rfl, hba, hca, hPa, _⟩ := (HL5.out _ (Below.refl _ _)).at_ (k := j) (x := natsS l) (by rw [List.getElem?_map, hl]; rfl)
          obtain ⟨Al, cl, rfl, _⟩ := id hPa
          rw [natsS_length, hlen] at hPa hca
          have HLV := Lib.hid (fun (w' : World) (h : Ext w5 w') => hPa.below h)
          have HCA := Lib.hid (fun (w' : World) (h : Ext w5 w') => ((h.cell (p := ⟨ba, oa + j, none⟩) hba).trans hca : w'.cell? ⟨ba, oa + j, none⟩ = some (.slice Al i cl)))
          have HSQ := Lib.hid (stq_succ (D := D) hl)
          have HSF := Lib.hid (fun (h0 : (allocs (i - 1) m)[0]? = some l) => stq_first (fun d hd => (HDD.out.2 d hd).1) h0)
          have HLJ := Lib.hid hl
          have HLE := Lib.hid hlen
          have HLX := Lib.hid hlx
          have HGF := Lib.hid (fun (k : Nat) (h : k ≤ i) => gain_fb (l := l) (m := k) HDD.out (by rw [HDN.out]; exact h) (by rw [hlen, HDN.out]) (fun x hx => by have := hlx x hx; omega))
          have HGL := Lib.hid (show gainQ (at0 D) (at0 l) i = gl D l from by unfold gl; rw [HDN.out])
          obtain ⟨⟨c0, A0, k0, l0, A0', k0', l0', bX, vX⟩, vB⟩ := HST.out
          have HXB := Lib.hid (fun (w' : World) (h : Ext wr w') => bX.below h)
          have hXl := bX.lt
          have HVX := Lib.hid vX
          have HVB := Lib.hid vB
          obtain ⟨wo, hwo⟩ : ∃ wo : World, wo = wr := ⟨_, rfl⟩
          subst hwo
          clear hPa hca hl hlm hls hlen hlx bX vX vB HST
          go_wp2_with fail
          refine (rfof_n (n := 0) (d := 1) (by omega) (by omega)).mono ?_
          rintro e w6 ⟨b6, A6, k6, c6, A6', k6', c6', rfl, h6, y6, n6, n6'⟩
          rw [zero_first] at h6
          have hlo : wo.heap.size ≤ w6.heap.size := y6.size
          go_upto_region 23 with (fail)
          have hG6 := FBox.new w6 (.bool b6) (.slice A6 k6 c6) (.slice A6' k6' c6') 27
          have Y6 : Ext wo (w6.alloc (.cells #[.bool b6, .slice A6 k6 c6, .slice A6' k6' c6'] 27)) := ext_alloc y6 _
          have h6 := h6.below (ext_alloc (Below.refl _ _) (.cells #[.bool b6, .slice A6 k6 c6, .slice A6' k6' c6'] 27))
          have hsz6 : w6.heap.size < (w6.alloc (.cells #[.bool b6, .slice A6 k6 c6, .slice A6' k6' c6'] 27)).heap.size := by simp
          generalize w6.alloc (.cells #[.bool b6, .slice A6 k6 c6, .slice A6' k6' c6'] 27) = W6 at *
          generalize w6.heap.size = B6 at *
          go_wp2
          go_loopw [17] (fun kv wr => ∃ k : Nat, k ≤ i ∧ kv = .int .i64 k ∧ FIs wo wr B6 (gainQ (at0 D) (at0 l) k)) (fun kv _ => i - (intOf kv).toNat)
          case atStart => exact ⟨0, Nat.zero_le _, rfl, b6, A6, k6, c6, A6', k6', c6', hG6, h6, Y6, n6, n6'⟩
          case round =>
            clear hG6 h6 Y6 n6 n6'
            obtain ⟨k, hk, rfl, cc, MA, mk, ml, MA', mk', ml', hM, vM, xM, nM, nM'⟩ := hrel
            have HM2 := Lib.hid (fun (w' : World) (h : Ext wr w') => hM.below h)
            have hMl := hM.lt
            have XR := hXr.trans xM
            have hxm := xM.size
            by_cases hki : k < i
            · have HMA := Lib.hid (fun (w' : World) (h : Ext wr w') => FracV.any (vM.below h) (HGF.out k hk) (by omega))
              have hki' : (k : Int) < (i : Int) := by omega
              have hk0 : (0 : Int) ≤ (k : Int) := by omega
              have hwk : IntKind.i64.wrap ((k : Int) + 1) = (k : Int) + 1 := wrap_in (by omega)
              obtain ⟨bm, om, um, rfl, hbm, hcm, hPm⟩ := (HML.out _ (x5.trans XR)).at_ (mtab_at hki)
              have hPm0 := hPm _ (Below.refl _ _)
              unfold RP at hPm0
              obtain ⟨Ar, cr, rfl, _, _⟩ := FracsV.form hPm0
              have hml : (mrow D m k).length = m + 1 := uptoQ_length _ _
              rw [hml] at hPm0 hcm
              have hkl : k < l.length := by rw [HLE.out]; exact hki
              obtain ⟨bl, ol, rfl, hbl, hcl⟩ := (HLV.out _ XR).plS (k := k) (by rw [natsS_length]; exact hkl)
              rw [getD_natsS hkl] at hcl
              have hxm' := HLX.out _ (at0_mem hkl)
              have hdd := HDD.out.2 _ (at0_mem (l := D) (i := k) (by rw [HDN.out]; exact hki))
              have hst : gainQ (at0 D) (at0 l) (k + 1) = gainQ (at0 D) (at0 l) k + meanQ (at0 l k) (at0 D k) := rfl
              obtain ⟨S1, hS1⟩ : ∃ S1, S1 = gainQ (at0 D) (at0 l) k := ⟨_, rfl⟩
              obtain ⟨S2, hS2⟩ : ∃ S2, S2 = gainQ (at0 D) (at0 l) (k + 1) := ⟨_, rfl⟩
              have HF1 := Lib.hid (HGF.out k hk)
              obtain ⟨x, hx⟩ : ∃ x, x = at0 l k := ⟨_, rfl⟩
              obtain ⟨br, or_, neg, A1, k1, c1, A2, k2, c2, rfl, hbr, e0, e1, e2, fv, _, _⟩ := hPm0.at_ (k := at0 l k) (q := meanQ (at0 l k) (at0 D k)) (uptoQ_at (by omega))
              have HFM := Lib.hid (meanQ_fb (n := at0 l k) (D := at0 D k) (by omega) hdd.1 hdd.2)
              obtain ⟨mq, hmq⟩ : ∃ q, q = meanQ (at0 l k) (at0 D k) := ⟨_, rfl⟩
              rw [← hS1, ← hS2, ← hmq] at hst
              rw [← hS1] at HMA HF1
              rw [← hmq] at fv HFM
              rw [← hx] at hcl hxm' e0 e1 e2
              have HST2 := Lib.hid hst
              have HS2 := Lib.hid hS2
              have HFV := Lib.hid (fun (w' : World) (h : Ext wr w') => FracV.any (fv.below h) HFM.out (by omega))
              have hx0 : (0 : Int) ≤ (x : Int) := by omega
              have hxi : (x : Int) < (m : Int) + 1 := by omega
              have HS := Lib.hid (fun (w' : World) (h : Ext wr w') => (⟨⟨(HM2.out _ h).1, (HM2.out _ h).2.1, (HM2.out _ h).2.2.1⟩, (h.cell (p := ⟨bm, om + k, none⟩) hbm).trans hcm, HCA.out _ (XR.trans h), (h.cell (p := ⟨bl, ol + k, none⟩) hbl).trans hcl, (h.cell (p := ⟨br, or_ + x * 3, none⟩) hbr).trans e0, (h.cell (p := ⟨br, or_ + x * 3 + 1, none⟩) hbr).trans e1, (h.cell (p := ⟨br, or_ + x * 3 + 2, none⟩) hbr).trans e2⟩ :
                (w'.cell? ⟨B6, 0, none⟩ = some (.bool cc) ∧ w'.cell? ⟨B6, 1, none⟩ = some (.slice MA mk ml) ∧ w'.cell? ⟨B6, 2, none⟩ = some (.slice MA' mk' ml')) ∧ w'.cell? ⟨bm, om + k, none⟩ = some (.slice (some ⟨br, or_, none⟩) (m + 1) cr) ∧ w'.cell? ⟨ba, oa + j, none⟩ = some (.slice (some ⟨bl, ol, none⟩) i cl) ∧ w'.cell? ⟨bl, ol + k, none⟩ = some (.int .i64 x) ∧
                w'.cell? ⟨br, or_ + x * 3, none⟩ = some (.bool neg) ∧ w'.cell? ⟨br, or_ + x * 3 + 1, none⟩ = some (.slice A1 k1 c1) ∧ w'.cell? ⟨br, or_ + x * 3 + 2, none⟩ = some (.slice A2 k2 c2)))
              clear hM vM hcm hcl e0 e1 e2 fv hPm hPm0 hml hst hS1 hS2 hx hmq
              go_upto_region 26 with (fail)
              refine wp_region_G (fun w' => Ext wr w') [15] (by kernel_rfl) ?_
              have gS : Ext wr wr.drew := (Below.refl _ _).drew
              refine wpAnyG_take 0 (v := ?_) rfl (by kernel_rfl) (by kernel_rfl) (by kernel_rfl) (by kernel_rfl) (by rfl) (by kernel_rfl) (fun _ _ _ h => h) (by rfl) (fun w' hw' => ?_) gS ?_
              rotate_left
              focus (have hh := HS.out _ hw'; go_split_ands; go_simp; (try with_reducible rfl); done)
              (try simp only [Act.put, List.getElem_toArray, List.getElem_cons_succ, List.getElem_cons_zero, List.setIfInBounds_toArray, List.set_cons_zero, List.set_cons_succ])
              refine wpAnyG_take 1 (v := ?_) rfl (by kernel_rfl) (by kernel_rfl) (by kernel_rfl) (by kernel_rfl) (by rfl) (by kernel_rfl) (fun _ _ _ h => h) (by rfl) (fun w' hw' => ?_) gS ?_
              rotate_left
              focus (go_simp; (try with_reducible rfl); done)
              (try simp only [Act.put, List.getElem_toArray, List.getElem_cons_succ, List.getElem_cons_zero, List.setIfInBounds_toArray, List.set_cons_zero, List.set_cons_succ])
              refine wpAnyG_take 2 (v := ?_) rfl (by kernel_rfl) (by kernel_rfl) (by kernel_rfl) (by kernel_rfl) (by rfl) (by kernel_rfl) (fun _ _ _ h => h) (by rfl) (fun w' hw' => ?_) gS ?_
              rotate_left
              focus (go_simp; (try with_reducible rfl); done)
              (try simp only [Act.put, List.getElem_toArray, List.getElem_cons_succ, List.getElem_cons_zero, List.setIfInBounds_toArray, List.set_cons_zero, List.set_cons_succ])
              refine wpAnyG_take 3 (v := ?_) rfl (by kernel_rfl) (by kernel_rfl) (by kernel_rfl) (by kernel_rfl) (by rfl) (by kernel_rfl) (fun _ _ _ h => h) (by rfl) (fun w' hw' => ?_) gS ?_
              rotate_left
              focus (go_simp; (try with_reducible rfl); done)
              (try simp only [Act.put, List.getElem_toArray, List.getElem_cons_succ, List.getElem_cons_zero, List.setIfInBounds_toArray, List.set_cons_zero, List.set_cons_succ])
              refine wpAnyG_take 4 (v := ?_) rfl (by kernel_rfl) (by kernel_rfl) (by kernel_rfl) (by kernel_rfl) (by rfl) (by kernel_rfl) (fun _ _ _ h => h) (by rfl) (fun w' hw' => ?_) gS ?_
              rotate_left
              focus (have hh := HS.out _ hw'; go_split_ands; go_simp; (try with_reducible rfl); done)
              (try simp only [Act.put, List.getElem_toArray, List.getElem_cons_succ, List.getElem_cons_zero, List.setIfInBounds_toArray, List.set_cons_zero, List.set_cons_succ])
              refine wpAnyG_take 5 (v := ?_) rfl (by kernel_rfl) (by kernel_rfl) (by kernel_rfl) (by kernel_rfl) (by rfl) (by kernel_rfl) (fun _ _ _ h => h) (by rfl) (fun w' hw' => ?_) gS ?_
              rotate_left
              focus (go_simp; (try with_reducible rfl); done)
              (try simp only [Act.put, List.getElem_toArray, List.getElem_cons_succ, List.getElem_cons_zero, List.setIfInBounds_toArray, List.set_cons_zero, List.set_cons_succ])
              refine wpAnyG_take 6 (v := ?_) rfl (by kernel_rfl) (by kernel_rfl) (by kernel_rfl) (by kernel_rfl) (by rfl) (by kernel_rfl) (fun _ _ _ h => h) (by rfl) (fun w' hw' => ?_) gS ?_
              rotate_left
              focus (go_simp; (try with_reducible rfl); done)
              (try simp only [Act.put, List.getElem_toArray, List.getElem_cons_succ, List.getElem_cons_zero, List.setIfInBounds_toArray, List.set_cons_zero, List.set_cons_succ])
              refine wpAnyG_take 7 (v := ?_) rfl (by kernel_rfl) (by kernel_rfl) (by kernel_rfl) (by kernel_rfl) (by rfl) (by kernel_rfl) (fun _ _ _ h => h) (by rfl) (fun w' hw' => ?_) gS ?_
              rotate_left
              focus (go_simp; (try with_reducible rfl); done)
              (try simp only [Act.put, List.getElem_toArray, List.getElem_cons_succ, List.getElem_cons_zero, List.setIfInBounds_toArray, List.set_cons_zero, List.set_cons_succ])
              refine wpAnyG_take 8 (v := ?_) rfl (by kernel_rfl) (by kernel_rfl) (by kernel_rfl) (by kernel_rfl) (by rfl) (by kernel_rfl) (fun _ _ _ h => h) (by rfl) (fun w' hw' => ?_) gS ?_
              rotate_left
              focus (have hh := HS.out _ hw'; go_split_ands; go_simp; (try with_reducible rfl); done)
              (try simp only [Act.put, List.getElem_toArray, List.getElem_cons_succ, List.getElem_cons_zero, List.setIfInBounds_toArray, List.set_cons_zero, List.set_cons_succ])
              refine wpAnyG_take 9 (v := ?_) rfl (by kernel_rfl) (by kernel_rfl) (by kernel_rfl) (by kernel_rfl) (by rfl) (by kernel_rfl) (fun _ _ _ h => h) (by rfl) (fun w' hw' => ?_) gS ?_
              rotate_left
              focus (go_simp; (try with_reducible rfl); done)
              (try simp only [Act.put, List.getElem_toArray, List.getElem_cons_succ, List.getElem_cons_zero, List.setIfInBounds_toArray, List.set_cons_zero, List.set_cons_succ])
              refine wpAnyG_take 10 (v := ?_) rfl (by kernel_rfl) (by kernel_rfl) (by kernel_rfl) (by kernel_rfl) (by rfl) (by kernel_rfl) (fun _ _ _ h => h) (by rfl) (fun w' hw' => ?_) gS ?_
              rotate_left
              focus (go_simp; (try with_reducible rfl); done)
              (try simp only [Act.put, List.getElem_toArray, List.getElem_cons_succ, List.getElem_cons_zero, List.setIfInBounds_toArray, List.set_cons_zero, List.set_cons_succ])
              refine wpAnyG_take 11 (v := ?_) rfl (by kernel_rfl) (by kernel_rfl) (by kernel_rfl) (by kernel_rfl) (by rfl) (by kernel_rfl) (fun _ _ _ h => h) (by rfl) (fun w' hw' => ?_) gS ?_
              rotate_left
              focus (have hh := HS.out _ hw'; go_split_ands; go_simp; (try with_reducible rfl); done)
              (try simp only [Act.put, List.getElem_toArray, List.getElem_cons_succ, List.getElem_cons_zero, List.setIfInBounds_toArray, List.set_cons_zero, List.set_cons_succ])
              refine wpAnyG_take 12 (v := ?_) rfl (by kernel_rfl) (by kernel_rfl) (by kernel_rfl) (by kernel_rfl) (by rfl) (by kernel_rfl) (fun _ _ _ h => h) (by rfl) (fun w' hw' => ?_) gS ?_
              rotate_left
              focus (go_simp; (try with_reducible rfl); done)
              (try simp only [Act.put, List.getElem_toArray, List.getElem_cons_succ, List.getElem_cons_zero, List.setIfInBounds_toArray, List.set_cons_zero, List.set_cons_succ])
              refine wpAnyG_take 13 (v := ?_) rfl (by kernel_rfl) (by kernel_rfl) (by kernel_rfl) (by kernel_rfl) (by rfl) (by kernel_rfl) (fun _ _ _ h => h) (by rfl) (fun w' hw' => ?_) gS ?_
              rotate_left
              focus (have hh := HS.out _ hw'; go_split_ands; go_simp; (try with_reducible rfl); done)
              (try simp only [Act.put, List.getElem_toArray, List.getElem_cons_succ, List.getElem_cons_zero, List.setIfInBounds_toArray, List.set_cons_zero, List.set_cons_succ])
              refine wpAnyG_one 14 (by kernel_rfl) rfl (by rfl) (fun K hK => ?_)
              (try simp only [List.getElem_toArray, List.getElem_cons_succ, List.getElem_cons_zero])
              go_simp
              go_at_call 36
              refine (radd_f (HMA.out _ gS) (HFV.out _ gS) HF1.out HFM.out (by omega)).mono ?_
              rintro _ s3 ⟨b8, A8, k8, c8, B8, l8, d8, rfl, h8, z8, n8, m8⟩
              have hg2 := gS.size
              have gS : Ext wr s3 := Ext.trans gS z8
              have f2 := gS
              obtain ⟨m0, m1, m2, gm0, gm1, gm2⟩ := HM2.out _ gS
              rw [← HST2.out] at h8
              (try go_wp2_with fail)
              refine hK.out _ _ (fun _ => gS) ?_
              clear hK K
              (try simp only [Act.put, List.getElem_toArray, List.getElem_cons_succ, List.getElem_cons_zero, List.setIfInBounds_toArray, List.set_cons_zero, List.set_cons_succ])
              refine wpAnyG_one 15 (by kernel_rfl) rfl (by rfl) (fun K hK => ?_)
              (try simp only [List.getElem_toArray, List.getElem_cons_succ, List.getElem_cons_zero])
              go_simp
              refine hK.out _ _ (fun h => absurd h (by decide)) ?_
              clear hK K
              (try simp only [Act.put, List.getElem_toArray, List.getElem_cons_succ, List.getElem_cons_zero, List.setIfInBounds_toArray, List.set_cons_zero, List.set_cons_succ])
              refine wpAnyG_done (by kernel_rfl) ?_ _
              go_wp2
              go_roundw
              all_goals first
                | exact ⟨k + 1, by omega, by go_num, b8, A8, k8, c8, B8, l8, d8, (HM2.out _ f2).put _ _ _, by rw [← HS2.out]; exact FracV.put h8 n8 m8 (by omega) _ _ _, ext_put (xM.trans f2) (by omega) _ _ _, n8.mono (by omega), m8.mono (by omega)⟩
                | (simp [intOf]; omega)
            · obtain rfl : k = i := by omega
              have hkk : ¬ ((k : Int) < (k : Int)) := by omega
              have HFG2 := HGF.out k (Nat.le_refl _)
              rw [HGL.out] at vM HFG2
              have HFL := Lib.hid HFG2
              have HSV := Lib.hid (fun (w' : World) (h : Ext wr w') => vM.below h)
              have HSA := Lib.hid (fun (w' : World) (h : Ext wr w') => FracV.any (vM.below h) HFL.out (by omega))
              have hwj : IntKind.i64.wrap ((j : Int) + 1) = (j : Int) + 1 := wrap_in (by omega)
              clear HFG2 hM vM
              by_cases hj00 : j = 0
              · subst hj00
                have HEQ := Lib.hid (HSF.out HLJ.out)
                have HCA0 := Lib.hid (fun (w' : World) (h : Ext w5 w') => (show w'.cell? ⟨ba, oa, none⟩ = some (.slice Al k cl) from by have h0 := HCA.out _ h; rw [Nat.add_zero] at h0; exact h0))
                go_upto_region 28 with (fail)
                have XW := xM
                have X5W := hXr.trans XW
                have HS := Lib.hid (fun (w' : World) (h : Ext wr w') => (⟨HCA0.out _ (X5W.trans h), (HM2.out _ (h)).1, (HM2.out _ (h)).2.1, (HM2.out _ (h)).2.2.1⟩ : w'.cell? ⟨ba, oa, none⟩ = some (.slice Al k cl) ∧ w'.cell? ⟨B6, 0, none⟩ = some (.bool cc) ∧ w'.cell? ⟨B6, 1, none⟩ = some (.slice MA mk ml) ∧ w'.cell? ⟨B6, 2, none⟩ = some (.slice MA' mk' ml')))
                obtain ⟨x0, x1, x2, gx0, gx1, gx2⟩ := HXB.out _ XW
                refine wp_region_G (fun w' => Ext wr w') [6] (by kernel_rfl) ?_
                have gS : Ext wr wr.drew := (Below.refl _ _).drew
                refine wpAnyG_take 0 (v := ?_) rfl (by kernel_rfl) (by kernel_rfl) (by kernel_rfl) (by kernel_rfl) (by rfl) (by kernel_rfl) (fun _ _ _ h => h) (by rfl) (fun w' hw' => ?_) gS ?_
                rotate_left
                focus (go_simp; (try with_reducible rfl); done)
                (try simp only [Act.put, List.getElem_toArray, List.getElem_cons_succ, List.getElem_cons_zero, List.setIfInBounds_toArray, List.set_cons_zero, List.set_cons_succ])
                refine wpAnyG_take 1 (v := ?_) rfl (by kernel_rfl) (by kernel_rfl) (by kernel_rfl) (by kernel_rfl) (by rfl) (by kernel_rfl) (fun _ _ _ h => h) (by rfl) (fun w' hw' => ?_) gS ?_
                rotate_left
                focus (go_simp; (try with_reducible rfl); done)
                (try simp only [Act.put, List.getElem_toArray, List.getElem_cons_succ, List.getElem_cons_zero, List.setIfInBounds_toArray, List.set_cons_zero, List.set_cons_succ])
                refine wpAnyG_take 2 (v := ?_) rfl (by kernel_rfl) (by kernel_rfl) (by kernel_rfl) (by kernel_rfl) (by rfl) (by kernel_rfl) (fun _ _ _ h => h) (by rfl) (fun w' hw' => ?_) gS ?_
                rotate_left
                focus (go_simp; (try with_reducible rfl); done)
                (try simp only [Act.put, List.getElem_toArray, List.getElem_cons_succ, List.getElem_cons_zero, List.setIfInBounds_toArray, List.set_cons_zero, List.set_cons_succ])
                refine wpAnyG_take 3 (v := ?_) rfl (by kernel_rfl) (by kernel_rfl) (by kernel_rfl) (by kernel_rfl) (by rfl) (by kernel_rfl) (fun _ _ _ h => h) (by rfl) (fun w' hw' => ?_) gS ?_
                rotate_left
                focus (have hh := HS.out _ hw'; go_split_ands; go_simp; (try with_reducible rfl); done)
                (try simp only [Act.put, List.getElem_toArray, List.getElem_cons_succ, List.getElem_cons_zero, List.setIfInBounds_toArray, List.set_cons_zero, List.set_cons_succ])
                refine wpAnyG_take 4 (v := ?_) rfl (by kernel_rfl) (by kernel_rfl) (by kernel_rfl) (by kernel_rfl) (by rfl) (by kernel_rfl) (fun _ _ _ h => h) (by rfl) (fun w' hw' => ?_) gS ?_
                rotate_left
                focus (have hh := HS.out _ hw'; go_split_ands; go_simp; (try with_reducible rfl); done)
                (try simp only [Act.put, List.getElem_toArray, List.getElem_cons_succ, List.getElem_cons_zero, List.setIfInBounds_toArray, List.set_cons_zero, List.set_cons_succ])
                refine wpAnyG_take 5 (v := ?_) rfl (by kernel_rfl) (by kernel_rfl) (by kernel_rfl) (by kernel_rfl) (by rfl) (by kernel_rfl) (fun _ _ _ h => h) (by rfl) (fun w' hw' => ?_) gS ?_
                rotate_left
                focus (go_simp; (try with_reducible rfl); done)
                (try simp only [Act.put, List.getElem_toArray, List.getElem_cons_succ, List.getElem_cons_zero, List.setIfInBounds_toArray, List.set_cons_zero, List.set_cons_succ])
                refine wpAnyG_one 6 (by kernel_rfl) rfl (by rfl) (fun K hK => ?_)
                go_simp
                refine hK.out _ _ (fun h => absurd h (by decide)) ?_
                clear hK K
                (try simp only [Act.put, List.getElem_toArray, List.getElem_cons_succ, List.getElem_cons_zero, List.setIfInBounds_toArray, List.set_cons_zero, List.set_cons_succ])
                refine wpAnyG_done (by kernel_rfl) ?_ _
                have jB := ((HXB.out _ XW).put (.bool cc) (.slice MA mk ml) (.slice MA' mk' ml')).below (Below.refl _ _).drew
                have jV := (FracV.put (HSV.out _ (Below.refl _ _)) nM nM' hXl (.bool cc) (.slice MA mk ml) (.slice MA' mk' ml')).below (Below.refl _ _).drew
                have jX : Ext w5 ((((wr.setCell ⟨X, 0, none⟩ (.bool cc)).setCell ⟨X, 1, none⟩ (.slice MA mk ml)).setCell ⟨X, 2, none⟩ (.slice MA' mk' ml')).drew) := (ext_put (b := X) X5W hXw (.bool cc) (.slice MA mk ml) (.slice MA' mk' ml')).drew
                clear x0 x1 x2 gx0 gx1 gx2 HS
                generalize ((((wr.setCell ⟨X, 0, none⟩ (.bool cc)).setCell ⟨X, 1, none⟩ (.slice MA mk ml)).setCell ⟨X, 2, none⟩ (.slice MA' mk' ml')).drew) = W9 at *
                have JB := Lib.hid jB
                have JV := Lib.hid jV
                have HNS := Lib.hid (show StB w5.heap.size X D (allocs (k - 1) m) k (0 + 1) (.slice Al k cl) W9 from ⟨⟨_, _, _, _, _, _, _, JB.out, fun _ => ⟨by rw [HEQ.out]; exact JV.out, by rw [HEQ.out]; exact HFL.out⟩⟩, fun _ => ⟨Al, cl, rfl, by rw [HEQ.out]; exact HLV.out _ jX⟩⟩)
                clear jB jV JB JV
                go_wp2
                go_roundw
                case rel => first | exact ⟨0 + 1, by omega, by go_num, HNS, jX⟩ | exact ⟨0 + 1, by omega, by go_num, HNS⟩
                case measure => simp [intOf]; omega
              · have hje : ((j : Int) == 0) = false := by rw [beq_eq_false_iff_ne]; omega
                have hje2 : ¬ ((j : Int) = 0) := by omega
                obtain ⟨hVX, hFX⟩ := HVX.out (by omega)
                have HQA := Lib.hid (fun (w' : World) (h : Ext wr w') => FracV.any (hVX.below (xM.trans h)) hFX (by omega))
                have HQV := Lib.hid (fun (w' : World) (h : Ext wr w') => And.intro (hVX.below (xM.trans h)) hFX)
                have HBV := Lib.hid (HVB.out (by omega))
                obtain ⟨z, hz⟩ : ∃ z, cmpQ (gl D l) (stq D (allocs (k - 1) m) j).2 = z := ⟨_, rfl⟩
                have HZ := Lib.hid hz
                obtain ⟨x0, x1, x2, _, _, _⟩ := HXB.out _ xM
                obtain ⟨m0, m1, m2, _, _, _⟩ := HM2.out _ (Below.refl _ _)
                clear hj00 hVX hFX
                by_cases hzz : 0 < z
                · have e1 : decide (0 < z) = true := decide_eq_true hzz
                  have HEQ := Lib.hid (show stq D (allocs (k - 1) m) (j + 1) = (l, gl D l) from by
                    rw [HSQ.out]
                    exact if_pos (by rw [← cmpQ_pos, hz]; exact hzz))
                  clear hz hzz
                  go_upto_region 28 with (go_at_call 37; (with_reducible refine (rcmp_e (HSA.out _ (Below.refl _ _)) (HQA.out _ (Below.refl _ _)) (by omega) (by omega) (by omega) HZ.out).mono ?_); rintro e s4 ⟨rfl, z4⟩)
                  clear x0 x1 x2 m0 m1 m2
                  have XW := (xM.trans z4)
                  have X5W := hXr.trans XW
                  have HS := Lib.hid (fun (w' : World) (h : Ext s4 w') => (⟨HCA.out _ (X5W.trans h), (HM2.out _ (z4.trans h)).1, (HM2.out _ (z4.trans h)).2.1, (HM2.out _ (z4.trans h)).2.2.1⟩ : w'.cell? ⟨ba, oa + j, none⟩ = some (.slice Al k cl) ∧ w'.cell? ⟨B6, 0, none⟩ = some (.bool cc) ∧ w'.cell? ⟨B6, 1, none⟩ = some (.slice MA mk ml) ∧ w'.cell? ⟨B6, 2, none⟩ = some (.slice MA' mk' ml')))
                  obtain ⟨x0, x1, x2, gx0, gx1, gx2⟩ := HXB.out _ XW
                  refine wp_region_G (fun w' => Ext s4 w') [6] (by kernel_rfl) ?_
                  have gS : Ext s4 s4.drew := (Below.refl _ _).drew
                  refine wpAnyG_take 0 (v := ?_) rfl (by kernel_rfl) (by kernel_rfl) (by kernel_rfl) (by kernel_rfl) (by rfl) (by kernel_rfl) (fun _ _ _ h => h) (by rfl) (fun w' hw' => ?_) gS ?_
                  rotate_left
                  focus (go_simp; (try with_reducible rfl); done)
                  (try simp only [Act.put, List.getElem_toArray, List.getElem_cons_succ, List.getElem_cons_zero, List.setIfInBounds_toArray, List.set_cons_zero, List.set_cons_succ])
                  refine wpAnyG_take 1 (v := ?_) rfl (by kernel_rfl) (by kernel_rfl) (by kernel_rfl) (by kernel_rfl) (by rfl) (by kernel_rfl) (fun _ _ _ h => h) (by rfl) (fun w' hw' => ?_) gS ?_
                  rotate_left
                  focus (go_simp; (try with_reducible rfl); done)
                  (try simp only [Act.put, List.getElem_toArray, List.getElem_cons_succ, List.getElem_cons_zero, List.setIfInBounds_toArray, List.set_cons_zero, List.set_cons_succ])
                  refine wpAnyG_take 2 (v := ?_) rfl (by kernel_rfl) (by kernel_rfl) (by kernel_rfl) (by kernel_rfl) (by rfl) (by kernel_rfl) (fun _ _ _ h => h) (by rfl) (fun w' hw' => ?_) gS ?_
                  rotate_left
                  focus (go_simp; (try with_reducible rfl); done)
                  (try simp only [Act.put, List.getElem_toArray, List.getElem_cons_succ, List.getElem_cons_zero, List.setIfInBounds_toArray, List.set_cons_zero, List.set_cons_succ])
                  refine wpAnyG_take 3 (v := ?_) rfl (by kernel_rfl) (by kernel_rfl) (by kernel_rfl) (by kernel_rfl) (by rfl) (by kernel_rfl) (fun _ _ _ h => h) (by rfl) (fun w' hw' => ?_) gS ?_
                  rotate_left
                  focus (have hh := HS.out _ hw'; go_split_ands; go_simp; (try with_reducible rfl); done)
                  (try simp only [Act.put, List.getElem_toArray, List.getElem_cons_succ, List.getElem_cons_zero, List.setIfInBounds_toArray, List.set_cons_zero, List.set_cons_succ])
                  refine wpAnyG_take 4 (v := ?_) rfl (by kernel_rfl) (by kernel_rfl) (by kernel_rfl) (by kernel_rfl) (by rfl) (by kernel_rfl) (fun _ _ _ h => h) (by rfl) (fun w' hw' => ?_) gS ?_
                  rotate_left
                  focus (have hh := HS.out _ hw'; go_split_ands; go_simp; (try with_reducible rfl); done)
                  (try simp only [Act.put, List.getElem_toArray, List.getElem_cons_succ, List.getElem_cons_zero, List.setIfInBounds_toArray, List.set_cons_zero, List.set_cons_succ])
                  refine wpAnyG_take 5 (v := ?_) rfl (by kernel_rfl) (by kernel_rfl) (by kernel_rfl) (by kernel_rfl) (by rfl) (by kernel_rfl) (fun _ _ _ h => h) (by rfl) (fun w' hw' => ?_) gS ?_
                  rotate_left
                  focus (go_simp; (try with_reducible rfl); done)
                  (try simp only [Act.put, List.getElem_toArray, List.getElem_cons_succ, List.getElem_cons_zero, List.setIfInBounds_toArray, List.set_cons_zero, List.set_cons_succ])
                  refine wpAnyG_one 6 (by kernel_rfl) rfl (by rfl) (fun K hK => ?_)
                  go_simp
                  refine hK.out _ _ (fun h => absurd h (by decide)) ?_
                  clear hK K
                  (try simp only [Act.put, List.getElem_toArray, List.getElem_cons_succ, List.getElem_cons_zero, List.setIfInBounds_toArray, List.set_cons_zero, List.set_cons_succ])
                  refine wpAnyG_done (by kernel_rfl) ?_ _
                  have jB := ((HXB.out _ XW).put (.bool cc) (.slice MA mk ml) (.slice MA' mk' ml')).below (Below.refl _ _).drew
                  have jV := (FracV.put (HSV.out _ z4) nM nM' hXl (.bool cc) (.slice MA mk ml) (.slice MA' mk' ml')).below (Below.refl _ _).drew
                  have jX : Ext w5 ((((s4.setCell ⟨X, 0, none⟩ (.bool cc)).setCell ⟨X, 1, none⟩ (.slice MA mk ml)).setCell ⟨X, 2, none⟩ (.slice MA' mk' ml')).drew) := (ext_put (b := X) X5W hXw (.bool cc) (.slice MA mk ml) (.slice MA' mk' ml')).drew
                  clear x0 x1 x2 gx0 gx1 gx2 HS
                  generalize ((((s4.setCell ⟨X, 0, none⟩ (.bool cc)).setCell ⟨X, 1, none⟩ (.slice MA mk ml)).setCell ⟨X, 2, none⟩ (.slice MA' mk' ml')).drew) = W9 at *
                  have JB := Lib.hid jB
                  have JV := Lib.hid jV
                  have HNS := Lib.hid (show StB w5.heap.size X D (allocs (k - 1) m) k (j + 1) (.slice Al k cl) W9 from ⟨⟨_, _, _, _, _, _, _, JB.out, fun _ => ⟨by rw [HEQ.out]; exact JV.out, by rw [HEQ.out]; exact HFL.out⟩⟩, fun _ => ⟨Al, cl, rfl, by rw [HEQ.out]; exact HLV.out _ jX⟩⟩)
                  clear jB jV JB JV
                  go_wp2
                  go_roundw
                  case rel => first | exact ⟨j + 1, by omega, by go_num, HNS, jX⟩ | exact ⟨j + 1, by omega, by go_num, HNS⟩
                  case measure => simp [intOf]; omega
                · have e1 : decide (0 < z) = false := decide_eq_false hzz
                  have HEQ := Lib.hid (show stq D (allocs (k - 1) m) (j + 1) = stq D (allocs (k - 1) m) j from by
                    rw [HSQ.out]
                    exact if_neg (by rw [← cmpQ_pos, hz]; exact hzz))
                  clear hz hzz
                  go_wp2_with (go_at_call 37; (with_reducible refine (rcmp_e (HSA.out _ (Below.refl _ _)) (HQA.out _ (Below.refl _ _)) (by omega) (by omega) (by omega) HZ.out).mono ?_); rintro e s4 ⟨rfl, z4⟩)
                  have HNS := Lib.hid (show StB w5.heap.size X D (allocs (k - 1) m) k (j + 1) u13 s4 from ⟨⟨_, _, _, _, _, _, _, HXB.out _ (xM.trans z4), fun _ => by rw [HEQ.out]; exact HQV.out _ z4⟩, fun _ => by
                    obtain ⟨A9, c9, e9, h9⟩ := HBV.out
                    exact ⟨A9, c9, e9, by rw [HEQ.out]; exact h9.below (xM.trans z4)⟩⟩)
                  have jX := hXr.trans (xM.trans z4)
                  go_roundw
                  case rel => first | exact ⟨j + 1, by omega, by go_num, HNS, jX⟩ | exact ⟨j + 1, by omega, by go_num, HNS⟩
                  case measure => simp [intOf]; omega
        · obtain rfl : j = n5 := by omega
          have hjj : ¬ ((j : Int) < (j : Int)) := by omega
          have hpos : 0 < j := by
            rw [HN5.out]
            cases h : allocs (i - 1) m with
            | nil => exact absurd h allocs_ne
            | cons x t => exact Nat.succ_pos _
          obtain ⟨_, vB⟩ := HST.out
          obtain ⟨A9, c9, rfl, hI⟩ := vB hpos
          have HI := Lib.hid hI
          have HEQ := Lib.hid (show stq D (allocs (i - 1) m) j = bestL D m from by
            rw [HN5.out, ← HDN.out]
            exact stq_all)
          clear hI vB HST
          go_wp2
          go_ret2
          exact ⟨A9, c9, rfl, by rw [← HEQ.out]; exact HI.out, X5.trans hXr⟩

end Go.Proofs.YtnedgbebajhcpaaGreatDoor
