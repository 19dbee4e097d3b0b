/- metal: Det. -/
import Derived.Test.YtmfigiifflljpaaMetT
set_option linter.unusedVariables false
set_option linter.unusedSimpArgs false
set_option maxRecDepth 100000
namespace Go.Proofs.Ytmfigiifflljpaa
open Go.RowKit Num

/-- A box, as a list that nothing is in. -/
def bxV (B : Nat) : Value := .slice (some ⟨B, 0, none⟩) 0 0
theorem MatO.box {K : Bool} {base : Nat} {w w' : World} {v : Value} {n c : Nat} {us xs : List Value} {M : Mx} {B : Nat} (h : MatO K base w v n c us xs M) (hE : Ext w w') (hB : w.heap.size ≤ B) (hlt : B < w'.heap.size) : MatO K base w' v n c us (bxV B :: xs) M :=
  have h' := h.ext hE
  have hN : New w.heap.size (bxV B) := fun b hb => by cases hb; exact hB
  ⟨h'.len, h'.own, fun k u hu => by
    obtain ⟨ts0, l1, l2, l3⟩ := h.row k u hu
    have hcell : ∀ b, u.ownBlock = some b → b < w.heap.size := fun b hb => (l1.lt b hb).2
    refine ⟨ts0, l1.kept (Ext.grown hE) (by cases u.ownBlock <;> simp), l2, fun j t ht => ?_⟩
    obtain ⟨m1, m2, m3⟩ := l3 j t ht
    have hf := m1.far hN
    refine ⟨m1.below hE, ⟨m2.1, fun x hx => ?_⟩, ⟨m3.1, fun x hx => ?_⟩⟩
    · rcases List.mem_cons.1 hx with rfl | hx
      · exact hf.1
      · exact m2.2 x hx
    · rcases List.mem_cons.1 hx with rfl | hx
      · exact hf.2
      · exact m3.2 x hx, h'.dis, h'.out, fun u hu => List.mem_cons_of_mem _ (h'.sub u hu), fun u hu b hb => by
    rcases List.mem_cons.1 hu with rfl | hu
    · cases hb; exact hlt
    · exact h'.xlt u hu b hb⟩
theorem MatO.boxW {K : Bool} {base : Nat} {w : World} {v : Value} {n c : Nat} {us : List Value} {M : Mx} {B : Nat} (h : MatO K base w v n c us (bxV B :: us) M) (hB : v.ownBlock ≠ some B ∧ ∀ u ∈ us, u.ownBlock ≠ some B) (hlt : B < w.heap.size) (x y z : Value) : MatO K base (((w.setCell ⟨B, 0, none⟩ x).setCell ⟨B, 1, none⟩ y).setCell ⟨B, 2, none⟩ z) v n c us (bxV B :: us) M :=
  h.other (fun u hu => hu) (fun b hb => by cases hb; exact hB) (grownBy_two (grownBy_two (setCell_grown _ _ _ _) (setCell_grown _ _ _ _)) (setCell_grown _ _ _ _)) (.inl rfl) (fun b hb => by cases hb; simp; exact hlt)
theorem FId.put {B b N : Nat} {s : World} {c : Bool} {A A' : Option Addr} {k l k' l' : Nat} {q : Rat} {x0 y0 z0 : Value} (hb : FBox s b x0 y0 z0) (h : FracV s c (.slice A k l) (.slice A' k' l') q) (n1 : New N (.slice A k l)) (n2 : New N (.slice A' k' l')) (hN : b < N) (hB : B ≤ N) : FId B (((s.setCell ⟨b, 0, none⟩ (.bool c)).setCell ⟨b, 1, none⟩ (.slice A k l)).setCell ⟨b, 2, none⟩ (.slice A' k' l')) b q :=
  ⟨c, A, k, l, A', k', l', hb.put _ _ _, FracV.put h n1 n2 hN _ _ _, n1.mono hB, n2.mono hB⟩
theorem pow5_at {c n L : Nat} (hc : c < n) (hn : n ≤ 8) (hL3 : 3 ≤ L) (hL : L ≤ 1000) : ∃ Lc, Lc = 5 ^ c * L ∧ 3 ≤ Lc ∧ Lc ≤ 390625000 ∧ 5 ^ (c + 1) * L = 5 * Lc :=
  ⟨5 ^ c * L, rfl, Nat.le_trans hL3 (Nat.le_mul_of_pos_left L (Nat.pow_pos (by decide))), pow5_le (by omega) hn hL, by rw [Nat.pow_succ, Nat.mul_comm (5 ^ c) 5, Nat.mul_assoc]⟩
theorem det_start {n : Nat} {A : Mx} : (1 : Rat) * det (n - 0) (tail A 0) = det n A := by
  rw [Rat.one_mul, Nat.sub_zero]
  exact det_congr fun i j _ _ => by unfold tail; rw [Nat.zero_add, Nat.zero_add]
theorem det_end {n : Nat} {A : Mx} {acc : Rat} : acc * det (n - n) (tail A n) = acc := by
  rw [Nat.sub_self]
  show acc * 1 = acc
  grind

set_option maxHeartbeats 16000000 in
theorem mdet_ok {K : Bool} {v : Value} {n L : Nat} {A : Mx} {w : World} (hv : EMat K w v n n A) (hL3 : 3 ≤ L) (hL : L ≤ 1000) (hfb : FBm A n n L) (hn : n ≤ 8) :
    Calls Try.prog 17 #[v] w (GivesFE w (det n A)) := by
  have HVA := Lib.hid (fun (w' : World) (h : Ext w w') => (hv.below h).valid hn hn)
  have HCO := Lib.hid (fun (w' : World) (h : Ext w w') => (hv.below h).cols (fun h => h))
  have HV := Lib.hid (fun (w' : World) (h : Ext w w') => hv.below h)
  have HFB := Lib.hid hfb
  obtain ⟨A0, cap, rfl, hc1, hc2⟩ := hv.form
  obtain ⟨D, hD⟩ : ∃ D, D = det n A := ⟨_, rfl⟩
  have HD := Lib.hid hD
  obtain ⟨i0, hi, hz0, hz1, hz2⟩ := info_parts info_frac
  obtain ⟨j0, hj, hy0, hy1, hy2⟩ := info_parts info_fl
  have hnn : ((n : Int) != (n : Int)) = false := by simp
  rw [← hD]
  clear hv hfb hD
  go_enter Try.func17, Try.ntmps17
  go_upto_region 1 with (fail)
  have hF0 := FBox.new w (.bool false) (.slice none 0 0) (.slice none 0 0) 34
  have x0 : Ext w (w.alloc (.cells #[.bool false, .slice none 0 0, .slice none 0 0] 34)) := ext_alloc (Below.refl _ _) _
  have hs0 : w.heap.size + 1 ≤ (w.alloc (.cells #[.bool false, .slice none 0 0, .slice none 0 0] 34)).heap.size := by simp
  generalize w.alloc (.cells #[.bool false, .slice none 0 0, .slice none 0 0] 34) = W0 at *
  have HF := Lib.hid (fun (w' : World) (h : Ext W0 w') => hF0.below h)
  have HE := Lib.hid x0
  have f0 : Ext W0 W0 := Below.refl _ _
  obtain ⟨r0, r1, r2, g0, g1, g2⟩ := hF0
  clear x0
  have HV0 := Lib.hid (HV.out _ HE.out)
  go_wp2_with (first
    | (go_at_call 21; (with_reducible refine (HVA.out _ HE.out).mono ?_); rintro e w1 ⟨rfl, x1⟩)
    | (go_at_call 44; (with_reducible refine (HCO.out _ (HE.out.trans x1)).mono ?_); rintro e w2 ⟨rfl, hw2⟩; obtain rfl : w1 = w2 := hw2.symm))
  go_loopw [4, 28] (fun mv iv wr => ∃ (k : Nat) (us : List Value), k ≤ n ∧ iv = .int .i64 k ∧ Hid (MatO K W0.heap.size wr mv k n us us A) ∧ Ext W0 wr) (fun _ iv _ => n - (intOf iv).toNat)
  case atStart => exact ⟨0, [], Nat.zero_le _, rfl, Lib.hid (MatO.nil_ _ _ _ _ _), x1⟩
  case round =>
    obtain ⟨k, us, hk, rfl, HM, hx⟩ := hrel
    by_cases hkn : k < n
    · obtain ⟨bb, ob, A1, cp1, rfl, hbl, hcell, hrow⟩ := (HV0.out).at_ hkn
      obtain ⟨ts, hts⟩ := hrow.named
      have HTS := Lib.hid hts.ent
      have HT := Lib.hid (fun (w' : World) (h : Ext wr w') => hts.below (hx.trans h))
      have hcell := (hx.cell (p := ⟨bb, ob + k, none⟩) hbl).trans hcell
      have hi1 : (0 : Int) ≤ (k : Int) := by omega
      have hi2 : (k : Int) < (n : Int) := by omega
      clear hrow hts
      go_wp2_with (first
        | (go_at_call 45; (with_reducible refine (eclone_n (HT.out _ (Below.refl _ _)) (by omega)).mono ?_); rintro e s2 ⟨A2, c2, rfl, hrow, x2⟩)
        | (at_builtin; refine wpList_append_mine _ (by rfl) (.tmp 32) (.tmp 35) 22 (by rfl) W0.heap.size 39 j0 (.slice none 0 0) 1 24 Try.underlying22 hj hy0 hy1 hy2 rfl (by omega) _ _ _ (by rfl) (HM.out.ext (ext_alloc x2 _)).own ⟨s2.heap.size, 0, none⟩ 1 1 [.slice A2 n c2] (by rfl) rfl (cell_one s2 _ _) (by simp [Value.oneCell']) (by unfold maxLen; omega) (by omega) (by have := hx.size; have := x2.size; simp; omega) ?_; intro v8 w8 ho8 hg8 hw8))
      have hM8 := Lib.hid (HM.out.push_in hx (ext_alloc x2 _) (hrow.kept (Ext.grown (ext_alloc (Below.refl _ _) _)) (by cases A2 <;> simp [Value.ownBlock])) HTS.out.1 HTS.out.2 ho8 hg8 hw8)
      have hx8 : Ext W0 w8 := Below.grown (Ext.trans hx (ext_alloc x2 _)) hg8 (by have := hx.size; have := x2.size; simp; omega) fun g hg => (HM.out.lt (.inl hg)).1
      clear ho8 hg8 hw8
      go_roundw
      case rel => exact ⟨k + 1, _, by omega, by go_num, hM8, hx8⟩
      case measure => simp [intOf]; omega
    · obtain rfl : n = k := by omega
      have hkk : ¬ ((n : Int) < (n : Int)) := by omega
      obtain ⟨AV, cV, rfl, hcV1, hcV2⟩ := HM.out.mat.form
      obtain ⟨W1, hW1⟩ : ∃ W1, W1 = wr := ⟨_, rfl⟩
      subst hW1
      go_wp2_with fail
      refine (fof_n (n := 1) (d := 1) (by omega) (by omega)).mono ?_
      rintro e w6 ⟨b6, A6, k6, c6, A6', k6', c6', rfl, h6, y6, n6, n6'⟩
      rw [one_firstM] at h6
      have hlo : W1.heap.size ≤ w6.heap.size := y6.size
      go_wp2
      have hG6 := FBox.new w6 (.bool b6) (.slice A6 k6 c6) (.slice A6' k6' c6') 34
      have Y6 : Ext W1 (w6.alloc (.cells #[.bool b6, .slice A6 k6 c6, .slice A6' k6' c6'] 34)) := ext_alloc y6 _
      have h6 := h6.below (ext_alloc (Below.refl _ _) (.cells #[.bool b6, .slice A6 k6 c6, .slice A6' k6' c6'] 34))
      have hsz6 : w6.heap.size < (w6.alloc (.cells #[.bool b6, .slice A6 k6 c6, .slice A6' k6' c6'] 34)).heap.size := by simp
      generalize w6.alloc (.cells #[.bool b6, .slice A6 k6 c6, .slice A6' k6' c6'] 34) = W6 at *
      generalize w6.heap.size = B6 at *
      have hW01 := hx.size
      have HM6 := Lib.hid (HM.out.box Y6 (by omega) (by omega))
      have HBL := Lib.hid HM.out.blk
      have HA6 := Lib.hid (⟨b6, A6, k6, c6, A6', k6', c6', hG6, h6, n6, n6'⟩ : FId W1.heap.size W6 B6 1)
      have hX6 : Ext W0 W6 := hx.trans Y6
      have hB6 : W1.heap.size ≤ B6 := by omega
      have hS6 := Y6.size
      have HF1 := Lib.hid (show FBm A n n (5 ^ 0 * L) from by rw [Nat.pow_zero, Nat.one_mul]; exact HFB.out)
      clear HM hG6 h6 n6 n6' Y6 y6 hx x1
      go_loopw [41] (fun iv wr => ∃ (c : Nat) (Mc : Mx) (acc : Rat) (us : List Value), c ≤ n ∧ iv = .int .i64 c ∧ Hid (MatO K W0.heap.size wr (.slice AV n cV) n n us (bxV B6 :: us) Mc) ∧ Hid (BlkLt W1.heap.size (.slice AV n cV) us) ∧ Hid (FId W1.heap.size wr B6 acc) ∧ Hid (acc * det (n - c) (tail Mc c) = D) ∧ Hid (FBm Mc n n (5 ^ c * L)) ∧ Hid (FB acc (3 + 5 ^ c * L)) ∧ Ext W0 wr ∧ W1.heap.size ≤ wr.heap.size) (fun iv _ => n - (intOf iv).toNat)
      case atStart => exact ⟨0, A, 1, us, Nat.zero_le _, rfl, HM6, HBL, HA6, Lib.hid (by rw [HD.out]; exact det_start), HF1, Lib.hid (fb_oneM.mono (by omega)), hX6, hS6⟩
      case round =>
        clear HM6 HBL HA6 HF1 hX6 hS6 HFB HV0 HVA HCO
        obtain ⟨c, Mc, acc, us, hc, rfl, HM, HBL, HAC, HDT, HFB, HFA, hx, hs1⟩ := hrel
        obtain ⟨wo, hwo⟩ : ∃ wo, wo = wr := ⟨_, rfl⟩
        subst hwo
        by_cases hcn : c < n
        · obtain ⟨Lc, hLd, hL3c, hLBc, hNX⟩ := pow5_at hcn hn hL3 hL
          rw [← hLd] at HFB HFA
          have HNX := Lib.hid hNX
          have hc1' : (0 : Int) ≤ (c : Int) := by omega
          have hc2' : (c : Int) < (n : Int) := by omega
          have hwc : IntKind.i64.wrap ((c : Int) + 1) = (c : Int) + 1 := wrap_in (by omega)
          clear hLd hNX
          go_wp2
          go_loopw [9] (fun iv wr => ∃ p : Nat, c ≤ p ∧ p ≤ n ∧ iv = .int .i64 p ∧ (∀ i, c ≤ i → i < p → Mc i c = 0) ∧ Ext wo wr) (fun iv _ => n - (intOf iv).toNat)
          case atStart => exact ⟨c, Nat.le_refl _, hc, rfl, fun i h1 h2 => by omega, Below.refl _ _⟩
          case round =>
            obtain ⟨p, hp1, hp2, rfl, hpz, hy⟩ := hrel
            by_cases hpn : p < n
            · obtain ⟨gv, cv, gp, cp, hve, hup, hcp, _, hgv, hgp, _, _, _⟩ := (HM.out.ext hy).row_at hpn (by omega)
              injection hve with hv1 hv2 hv3
              subst hv1 hv3
              obtain ⟨neg, A1, k1, c1, A2, k2, c2, e0, e1, e2, _, _, _, he, _, _⟩ := (HM.out.ext hy).ent_at hup hcn
              have HE1 := Lib.hid (he.any (HFB.out p c hpn hcn) (by omega) (by omega))
              have hi1 : (0 : Int) ≤ (p : Int) := by omega
              have hi2 : (p : Int) < (n : Int) := by omega
              have HPZ := Lib.hid hpz
              clear he hpz
              by_cases hq : Mc p c = 0
              · have HSG := Lib.hid (show sgnQ (Mc p c) = 0 from by unfold sgnQ; rw [hq]; decide)
                go_wp2_with (go_at_call 47; (with_reducible refine (sign_e HE1.out HSG.out).mono ?_); rintro e w7 ⟨rfl, x7⟩)
                go_roundw
                case rel => exact ⟨p + 1, by omega, by omega, by go_num, fun i h1 h2 => by
                  by_cases hip : i = p
                  · rw [hip]; exact hq
                  · exact HPZ.out i h1 (by omega), hy.trans x7⟩
                case measure => simp [intOf]; omega
              · have HQ := Lib.hid hq
                have HPV := Lib.hid (piv_eq (M := Mc) (n := n) (c := c) (k := c) hp1 hp2 HPZ.out (.inr hq))
                obtain ⟨z, hz⟩ : ∃ z, sgnQ (Mc p c) = z := ⟨_, rfl⟩
                have hz0' : ¬ (z = 0) := fun h => sgnQ_ne hq (hz.trans h)
                have HSG := Lib.hid hz
                have hz1' : (z == 0) = false := by rw [beq_eq_false_iff_ne]; exact hz0'
                have hpe : ((p : Int) == (n : Int)) = false := by rw [beq_eq_false_iff_ne]; omega
                have hpe' : ¬ (p = n) := by omega
                clear hz hq
                go_upto_if 69 with (go_at_call 47; (with_reducible refine (sign_e HE1.out HSG.out).mono ?_); rintro e w7 ⟨rfl, x7⟩; have y7 : Ext wo w7 := hy.trans x7)
                go_cut [] (fun wx => ∃ us' a', Hid (MatO K W0.heap.size wx (.slice (some ⟨gv, 0, none⟩) n cV) n n us' (bxV B6 :: us') (swp Mc c p)) ∧ Hid (BlkLt W1.heap.size (.slice (some ⟨gv, 0, none⟩) n cV) us') ∧ Hid (FId W1.heap.size wx B6 a') ∧ Hid (a' = if p = c then acc else -acc) ∧ Ext W0 wx ∧ W1.heap.size ≤ wx.heap.size)
                case first =>
                  by_cases hpc : p = c
                  · have hpc1 : ((p : Int) != (c : Int)) = false := by simp; omega
                    go_wp2
                    go_meet
                    exact ⟨us, acc, Lib.hid (by rw [hpc, swp_same]; exact HM.out.ext y7), HBL, Lib.hid (HAC.out.ext y7), Lib.hid (by rw [if_pos hpc]), hx.trans y7, Nat.le_trans hs1 y7.size⟩
                  · have hpc1 : ((p : Int) != (c : Int)) = true := by rw [bne_iff_ne]; omega
                    go_upto_region 19 with (fail)
                    have hi3 : (0 : Int) ≤ (c : Int) := by omega
                    have hi4 : (c : Int) < (n : Int) := by omega
                    obtain ⟨gk, ck, huk, hck, hfk, _, hgk, hgvk, hbv, hbk⟩ := (HM.out.ext y7).row_of hcn (by omega)
                    obtain ⟨gp', cp', hup', hcp', hfp, _, _, _, _, _⟩ := (HM.out.ext y7).row_of hpn (by omega)
                    rw [hup] at hup'
                    cases hup'
                    have hgv7 : gv < w7.heap.size := by have := y7.size; omega
                    have HS := Lib.hid (fun (w' : World) (h : Ext w7 w') => (⟨(h.cell (p := ⟨gv, c, none⟩) hgv7).trans hck, (h.cell (p := ⟨gv, p, none⟩) hgv7).trans hcp', (h.frozen (p := ⟨gv, c, none⟩) hgv7).trans hfk, (h.frozen (p := ⟨gv, p, none⟩) hgv7).trans hfp⟩ : w'.cell? ⟨gv, c, none⟩ = some (.slice (some ⟨gk, 0, none⟩) n ck) ∧ w'.cell? ⟨gv, p, none⟩ = some (.slice (some ⟨gp, 0, none⟩) n cp) ∧ w'.frozen? ⟨gv, c, none⟩ = false ∧ w'.frozen? ⟨gv, p, none⟩ = false))
                    clear hck hcp hcp' hfk hfp e0 e1 e2
                    go_cut [] (fun wx => ∃ us', Hid (MatO K W0.heap.size wx (.slice (some ⟨gv, 0, none⟩) n cV) n n us' (bxV B6 :: us') (swp Mc c p)) ∧ Hid (BlkLt W1.heap.size (.slice (some ⟨gv, 0, none⟩) n cV) us') ∧ Hid (FId W1.heap.size wx B6 acc) ∧ Ext W0 wx ∧ W1.heap.size ≤ wx.heap.size)
                    case first =>
                      refine wp_region_H (fun w' => Ext w7 w') [13, 14, 15] (by kernel_rfl) ?_
                      have gS : Ext w7 w7.drew := (Below.refl _ _).drew
                      refine wpAnyH_take 0 (v := ?_) rfl (by kernel_rfl) (by kernel_rfl) (by kernel_rfl) (by kernel_rfl) (by kernel_rfl) (fun _ _ _ h => h) (by rfl) (fun w' hw' => ?_) gS ?_
                      rotate_left
                      focus (go_simp; (try with_reducible rfl); done)
                      (try simp only [Act.put, List.getElem_toArray, List.getElem_cons_succ, List.getElem_cons_zero, List.setIfInBounds_toArray, List.set_cons_zero, List.set_cons_succ])
                      refine wpAnyH_take 1 (v := ?_) rfl (by kernel_rfl) (by kernel_rfl) (by kernel_rfl) (by kernel_rfl) (by kernel_rfl) (fun _ _ _ h => h) (by rfl) (fun w' hw' => ?_) gS ?_
                      rotate_left
                      focus (go_simp; (try with_reducible rfl); done)
                      (try simp only [Act.put, List.getElem_toArray, List.getElem_cons_succ, List.getElem_cons_zero, List.setIfInBounds_toArray, List.set_cons_zero, List.set_cons_succ])
                      refine wpAnyH_takeF 2 (v := ?_) rfl (by kernel_rfl) (by kernel_rfl) (by kernel_rfl) (by kernel_rfl) (fun _ _ _ h => h) (by rfl) (fun w' => ?_) ?_
                      rotate_left
                      focus (go_simp; (try with_reducible rfl); done)
                      (try simp only [Act.put, List.getElem_toArray, List.getElem_cons_succ, List.getElem_cons_zero, List.setIfInBounds_toArray, List.set_cons_zero, List.set_cons_succ])
                      refine wpAnyH_takeF 3 (v := ?_) rfl (by kernel_rfl) (by kernel_rfl) (by kernel_rfl) (by kernel_rfl) (fun _ _ _ h => h) (by rfl) (fun w' => ?_) ?_
                      rotate_left
                      focus (go_simp; (try with_reducible rfl); done)
                      (try simp only [Act.put, List.getElem_toArray, List.getElem_cons_succ, List.getElem_cons_zero, List.setIfInBounds_toArray, List.set_cons_zero, List.set_cons_succ])
                      refine wpAnyH_take 4 (v := ?_) rfl (by kernel_rfl) (by kernel_rfl) (by kernel_rfl) (by kernel_rfl) (by kernel_rfl) (fun _ _ _ h => h) (by rfl) (fun w' hw' => ?_) gS ?_
                      rotate_left
                      focus (go_simp; (try with_reducible rfl); done)
                      (try simp only [Act.put, List.getElem_toArray, List.getElem_cons_succ, List.getElem_cons_zero, List.setIfInBounds_toArray, List.set_cons_zero, List.set_cons_succ])
                      refine wpAnyH_take 5 (v := ?_) rfl (by kernel_rfl) (by kernel_rfl) (by kernel_rfl) (by kernel_rfl) (by kernel_rfl) (fun _ _ _ h => h) (by rfl) (fun w' hw' => ?_) gS ?_
                      rotate_left
                      focus (go_simp; (try with_reducible rfl); done)
                      (try simp only [Act.put, List.getElem_toArray, List.getElem_cons_succ, List.getElem_cons_zero, List.setIfInBounds_toArray, List.set_cons_zero, List.set_cons_succ])
                      refine wpAnyH_take 6 (v := ?_) rfl (by kernel_rfl) (by kernel_rfl) (by kernel_rfl) (by kernel_rfl) (by kernel_rfl) (fun _ _ _ h => h) (by rfl) (fun w' hw' => ?_) gS ?_
                      rotate_left
                      focus (go_simp; (try with_reducible rfl); done)
                      (try simp only [Act.put, List.getElem_toArray, List.getElem_cons_succ, List.getElem_cons_zero, List.setIfInBounds_toArray, List.set_cons_zero, List.set_cons_succ])
                      refine wpAnyH_take 7 (v := ?_) rfl (by kernel_rfl) (by kernel_rfl) (by kernel_rfl) (by kernel_rfl) (by kernel_rfl) (fun _ _ _ h => h) (by rfl) (fun w' hw' => ?_) gS ?_
                      rotate_left
                      focus (have hh := HS.out _ hw'; go_split_ands; go_simp; (try with_reducible rfl); done)
                      (try simp only [Act.put, List.getElem_toArray, List.getElem_cons_succ, List.getElem_cons_zero, List.setIfInBounds_toArray, List.set_cons_zero, List.set_cons_succ])
                      refine wpAnyH_take 8 (v := ?_) rfl (by kernel_rfl) (by kernel_rfl) (by kernel_rfl) (by kernel_rfl) (by kernel_rfl) (fun _ _ _ h => h) (by rfl) (fun w' hw' => ?_) gS ?_
                      rotate_left
                      focus (go_simp; (try with_reducible rfl); done)
                      (try simp only [Act.put, List.getElem_toArray, List.getElem_cons_succ, List.getElem_cons_zero, List.setIfInBounds_toArray, List.set_cons_zero, List.set_cons_succ])
                      refine wpAnyH_take 9 (v := ?_) rfl (by kernel_rfl) (by kernel_rfl) (by kernel_rfl) (by kernel_rfl) (by kernel_rfl) (fun _ _ _ h => h) (by rfl) (fun w' hw' => ?_) gS ?_
                      rotate_left
                      focus (go_simp; (try with_reducible rfl); done)
                      (try simp only [Act.put, List.getElem_toArray, List.getElem_cons_succ, List.getElem_cons_zero, List.setIfInBounds_toArray, List.set_cons_zero, List.set_cons_succ])
                      refine wpAnyH_take 10 (v := ?_) rfl (by kernel_rfl) (by kernel_rfl) (by kernel_rfl) (by kernel_rfl) (by kernel_rfl) (fun _ _ _ h => h) (by rfl) (fun w' hw' => ?_) gS ?_
                      rotate_left
                      focus (go_simp; (try with_reducible rfl); done)
                      (try simp only [Act.put, List.getElem_toArray, List.getElem_cons_succ, List.getElem_cons_zero, List.setIfInBounds_toArray, List.set_cons_zero, List.set_cons_succ])
                      refine wpAnyH_take 11 (v := ?_) rfl (by kernel_rfl) (by kernel_rfl) (by kernel_rfl) (by kernel_rfl) (by kernel_rfl) (fun _ _ _ h => h) (by rfl) (fun w' hw' => ?_) gS ?_
                      rotate_left
                      focus (have hh := HS.out _ hw'; go_split_ands; go_simp; (try with_reducible rfl); done)
                      (try simp only [Act.put, List.getElem_toArray, List.getElem_cons_succ, List.getElem_cons_zero, List.setIfInBounds_toArray, List.set_cons_zero, List.set_cons_succ])
                      refine wpAnyH_take 12 (v := ?_) rfl (by kernel_rfl) (by kernel_rfl) (by kernel_rfl) (by kernel_rfl) (by kernel_rfl) (fun _ _ _ h => h) (by rfl) (fun w' hw' => ?_) gS ?_
                      rotate_left
                      focus (go_simp; (try with_reducible rfl); done)
                      (try simp only [Act.put, List.getElem_toArray, List.getElem_cons_succ, List.getElem_cons_zero, List.setIfInBounds_toArray, List.set_cons_zero, List.set_cons_succ])
                      obtain ⟨t0, t1, t2, t3⟩ := HS.out _ (Below.refl _ _)
                      obtain ⟨um, m0, m1⟩ := (HM.out.ext y7).mid (k := p) hcn (.slice (some ⟨gk, 0, none⟩) n ck)
                      refine wpAnyH_one 13 (by kernel_rfl) rfl (by rfl) (fun K hK => ?_)
                      (try simp only [List.getElem_toArray, List.getElem_cons_succ, List.getElem_cons_zero])
                      go_simp
                      refine hK.out _ _ (fun h => absurd h (by decide)) ?_
                      clear hK K
                      (try simp only [Act.put, List.getElem_toArray, List.getElem_cons_succ, List.getElem_cons_zero, List.setIfInBounds_toArray, List.set_cons_zero, List.set_cons_succ])
                      refine wpAnyH_one 14 (by kernel_rfl) rfl (by rfl) (fun K hK => ?_)
                      (try simp only [List.getElem_toArray, List.getElem_cons_succ, List.getElem_cons_zero])
                      go_simp
                      refine hK.out _ _ (fun h => absurd h (by decide)) ?_
                      clear hK K
                      (try simp only [Act.put, List.getElem_toArray, List.getElem_cons_succ, List.getElem_cons_zero, List.setIfInBounds_toArray, List.set_cons_zero, List.set_cons_succ])
                      refine wpAnyH_one 15 (by kernel_rfl) rfl (by rfl) (fun K hK => ?_)
                      (try simp only [List.getElem_toArray, List.getElem_cons_succ, List.getElem_cons_zero])
                      go_simp
                      refine hK.out _ _ (fun h => absurd h (by decide)) ?_
                      clear hK K
                      (try simp only [Act.put, List.getElem_toArray, List.getElem_cons_succ, List.getElem_cons_zero, List.setIfInBounds_toArray, List.set_cons_zero, List.set_cons_succ])
                      refine wpAnyH_done (by kernel_rfl) ?_ _
                      go_wp2
                      go_meet
                      have h0 := (HM.out.ext y7).swap rfl hup huk
                      rw [swp_comm] at h0
                      exact ⟨_, Lib.hid ((h0.narrow (fun u hu => List.mem_cons_of_mem _ hu) (fun u hu => by
                        rcases List.mem_cons.1 hu with rfl | hu
                        · exact List.mem_cons_self
                        · exact List.mem_cons_of_mem _ (mem_swap hup huk hu))).ext (ext_drew (Below.refl _ _))), Lib.hid (HBL.out.sub fun u hu => mem_swap hup huk hu), Lib.hid (((HAC.out.ext y7).fr HBL.out hB6 ((Fr.refl _ _ _).swap rfl p c _ _)).ext (ext_drew (Below.refl _ _))), ext_drew (swap_ext (hx.trans y7) hbv _ _), by have := y7.size; simp; omega⟩
                    case rest =>
                      clear HS hup huk HE1 hz1' hz0' x7 y7 hy HSG HM HBL HAC
                      obtain ⟨us', HM', HBL', HAC', hx', hs'⟩ := hcut
                      obtain ⟨cc, MA, mk, ml, MA', mk', ml', hM, vM, nM, nM'⟩ := HAC'.out
                      have hMl := hM.lt
                      have HMb := Lib.hid (fun (w' : World) (h : Ext wc w') => hM.below h)
                      obtain ⟨m0, m1, m2, gm0, gm1, gm2⟩ := hM
                      have HMV := Lib.hid (FracV.any vM HFA.out (by omega))
                      clear vM HAC'
                      go_wp2_with (go_at_call 48; (with_reducible refine (neg_f HMV.out (by omega)).mono ?_); rintro _ s8 ⟨b8, A8, k8, c8, B8, l8, d8, rfl, h8, z8, n8, m8⟩; obtain ⟨m0, m1, m2, gm0, gm1, gm2⟩ := HMb.out _ z8)
                      go_meet
                      exact ⟨us', -acc, Lib.hid ((HM'.out.ext z8).boxW (HBL'.out.not hB6) (by have := z8.size; omega) _ _ _), HBL', Lib.hid (FId.put (HMb.out _ z8) h8 n8 m8 hMl hs'), Lib.hid (by rw [if_neg hpc]), ext_put (hx'.trans z8) (by omega) _ _ _, by have := z8.size; simp; omega⟩
                case rest =>
                  clear hup HE1 hz1' hz0' x7 y7 hy HSG HM HBL HAC e0 e1 e2 hcp
                  obtain ⟨us', a', HM', HBL', HAC', HA', hx', hs'⟩ := hcut
                  obtain ⟨S, hS⟩ : ∃ S, S = swp Mc c p := ⟨_, rfl⟩
                  have HSD := Lib.hid hS
                  have HFS := Lib.hid (show FBm S n n Lc from by rw [hS]; exact fbm_swp HFB.out hcn hpn)
                  have HQS := Lib.hid (show S c c ≠ 0 from by rw [hS, show swp Mc c p c = Mc p from by rw [swp_at, if_pos rfl]]; exact HQ.out)
                  have HFa := Lib.hid (show FB a' (3 + Lc) from by
                    rw [HA'.out]
                    split
                    · exact HFA.out
                    · exact FB.neg HFA.out)
                  rw [← hS] at HM'
                  have HSTEP := Lib.hid (det_step hcn hpn HDT.out HPV.out hS HA'.out)
                  clear hS HFB HFA HQ HDT HPV HA'
                  obtain ⟨cc, MA, mk, ml, MA', mk', ml', hM, vM, nM, nM'⟩ := HAC'.out
                  have hMl := hM.lt
                  have HMb := Lib.hid (fun (w' : World) (h : Ext wc w') => hM.below h)
                  have HMV := Lib.hid (FracV.any vM HFa.out (by omega))
                  obtain ⟨gc, ck, huc, hcc, hfc, hgvl, hgcl, hgvc, hbv, hbc⟩ := HM'.out.row_of hcn (by omega)
                  obtain ⟨nd, A1, k1, c1, A2, k2, c2, e0, e1, e2, _, _, _, he, _, _⟩ := HM'.out.ent_at huc hcn
                  have HEC := Lib.hid (he.any (HFS.out c c hcn hcn) (by omega) (by omega))
                  have HUC := Lib.hid huc
                  have HFm := Lib.hid (FB.mul HFa.out (HFS.out c c hcn hcn) (by omega))
                  have HS := Lib.hid (fun (w' : World) (h : Ext wc w') => (⟨(h.cell (p := ⟨gv, c, none⟩) hgvl).trans hcc, ⟨(h.cell (p := ⟨gc, c * 3, none⟩) hgcl).trans e0, (h.cell (p := ⟨gc, c * 3 + 1, none⟩) hgcl).trans e1, (h.cell (p := ⟨gc, c * 3 + 2, none⟩) hgcl).trans e2⟩, (HMb.out w' h).1, (HMb.out w' h).2.1, (HMb.out w' h).2.2.1⟩ : w'.cell? ⟨gv, c, none⟩ = some (.slice (some ⟨gc, 0, none⟩) n ck) ∧ (w'.cell? ⟨gc, c * 3, none⟩ = some (.bool nd) ∧ w'.cell? ⟨gc, c * 3 + 1, none⟩ = some (.slice A1 k1 c1) ∧ w'.cell? ⟨gc, c * 3 + 2, none⟩ = some (.slice A2 k2 c2)) ∧ w'.cell? ⟨B6, 0, none⟩ = some (.bool cc) ∧ w'.cell? ⟨B6, 1, none⟩ = some (.slice MA mk ml) ∧ w'.cell? ⟨B6, 2, none⟩ = some (.slice MA' mk' ml')))
                  clear he vM hM e0 e1 e2 hcc hfc huc HAC' nM nM'
                  go_upto_region 21 with (fail)
                  refine wp_region_G (fun w' => Ext wc w') [9] (by kernel_rfl) ?_
                  have gS : Ext wc wc.drew := (Below.refl _ _).drew
                  refine wpAnyG_take 0 (v := ?_) rfl (by kernel_rfl) (by kernel_rfl) (by kernel_rfl) (by kernel_rfl) (by rfl) (by kernel_rfl) (fun _ _ _ h => h) (by rfl) (fun w' hw' => ?_) gS ?_
                  rotate_left
                  focus (have hh := HS.out _ hw'; go_split_ands; go_simp; (try with_reducible rfl); done)
                  (try simp only [Act.put, List.getElem_toArray, List.getElem_cons_succ, List.getElem_cons_zero, List.setIfInBounds_toArray, List.set_cons_zero, List.set_cons_succ])
                  refine wpAnyG_take 1 (v := ?_) rfl (by kernel_rfl) (by kernel_rfl) (by kernel_rfl) (by kernel_rfl) (by rfl) (by kernel_rfl) (fun _ _ _ h => h) (by rfl) (fun w' hw' => ?_) gS ?_
                  rotate_left
                  focus (go_simp; (try with_reducible rfl); done)
                  (try simp only [Act.put, List.getElem_toArray, List.getElem_cons_succ, List.getElem_cons_zero, List.setIfInBounds_toArray, List.set_cons_zero, List.set_cons_succ])
                  refine wpAnyG_take 2 (v := ?_) rfl (by kernel_rfl) (by kernel_rfl) (by kernel_rfl) (by kernel_rfl) (by rfl) (by kernel_rfl) (fun _ _ _ h => h) (by rfl) (fun w' hw' => ?_) gS ?_
                  rotate_left
                  focus (go_simp; (try with_reducible rfl); done)
                  (try simp only [Act.put, List.getElem_toArray, List.getElem_cons_succ, List.getElem_cons_zero, List.setIfInBounds_toArray, List.set_cons_zero, List.set_cons_succ])
                  refine wpAnyG_take 3 (v := ?_) rfl (by kernel_rfl) (by kernel_rfl) (by kernel_rfl) (by kernel_rfl) (by rfl) (by kernel_rfl) (fun _ _ _ h => h) (by rfl) (fun w' hw' => ?_) gS ?_
                  rotate_left
                  focus (go_simp; (try with_reducible rfl); done)
                  (try simp only [Act.put, List.getElem_toArray, List.getElem_cons_succ, List.getElem_cons_zero, List.setIfInBounds_toArray, List.set_cons_zero, List.set_cons_succ])
                  refine wpAnyG_take 4 (v := ?_) rfl (by kernel_rfl) (by kernel_rfl) (by kernel_rfl) (by kernel_rfl) (by rfl) (by kernel_rfl) (fun _ _ _ h => h) (by rfl) (fun w' hw' => ?_) gS ?_
                  rotate_left
                  focus (have hh := HS.out _ hw'; go_split_ands; go_simp; (try with_reducible rfl); done)
                  (try simp only [Act.put, List.getElem_toArray, List.getElem_cons_succ, List.getElem_cons_zero, List.setIfInBounds_toArray, List.set_cons_zero, List.set_cons_succ])
                  refine wpAnyG_take 5 (v := ?_) rfl (by kernel_rfl) (by kernel_rfl) (by kernel_rfl) (by kernel_rfl) (by rfl) (by kernel_rfl) (fun _ _ _ h => h) (by rfl) (fun w' hw' => ?_) gS ?_
                  rotate_left
                  focus (go_simp; (try with_reducible rfl); done)
                  (try simp only [Act.put, List.getElem_toArray, List.getElem_cons_succ, List.getElem_cons_zero, List.setIfInBounds_toArray, List.set_cons_zero, List.set_cons_succ])
                  refine wpAnyG_take 6 (v := ?_) rfl (by kernel_rfl) (by kernel_rfl) (by kernel_rfl) (by kernel_rfl) (by rfl) (by kernel_rfl) (fun _ _ _ h => h) (by rfl) (fun w' hw' => ?_) gS ?_
                  rotate_left
                  focus (go_simp; (try with_reducible rfl); done)
                  (try simp only [Act.put, List.getElem_toArray, List.getElem_cons_succ, List.getElem_cons_zero, List.setIfInBounds_toArray, List.set_cons_zero, List.set_cons_succ])
                  refine wpAnyG_take 7 (v := ?_) rfl (by kernel_rfl) (by kernel_rfl) (by kernel_rfl) (by kernel_rfl) (by rfl) (by kernel_rfl) (fun _ _ _ h => h) (by rfl) (fun w' hw' => ?_) gS ?_
                  rotate_left
                  focus (have hh := HS.out _ hw'; go_split_ands; go_simp; (try with_reducible rfl); done)
                  (try simp only [Act.put, List.getElem_toArray, List.getElem_cons_succ, List.getElem_cons_zero, List.setIfInBounds_toArray, List.set_cons_zero, List.set_cons_succ])
                  refine wpAnyG_one 8 (by kernel_rfl) rfl (by rfl) (fun K hK => ?_)
                  go_simp
                  go_at_call 49
                  refine (mul_f (HMV.out.below gS) (HEC.out.below gS) (by omega)).mono ?_
                  rintro _ s7 ⟨b7, A7, k7, c7, B7, l7, d7, rfl, h7, z7, n7, m7⟩
                  have hgs := gS.size
                  have gS : Ext wc s7 := Ext.trans gS z7
                  have gR := gS
                  (try go_wp2_with fail)
                  refine hK.out _ _ (fun _ => gS) ?_
                  clear hK K
                  (try simp only [Act.put, List.getElem_toArray, List.getElem_cons_succ, List.getElem_cons_zero, List.setIfInBounds_toArray, List.set_cons_zero, List.set_cons_succ])
                  obtain ⟨m0, m1, m2, gm0, gm1, gm2⟩ := HMb.out _ gS
                  refine wpAnyG_one 9 (by kernel_rfl) rfl (by rfl) (fun K hK => ?_)
                  (try simp only [List.getElem_toArray, List.getElem_cons_succ, List.getElem_cons_zero])
                  go_simp
                  refine hK.out _ _ (fun h => absurd h (by decide)) ?_
                  clear hK K
                  (try simp only [Act.put, List.getElem_toArray, List.getElem_cons_succ, List.getElem_cons_zero, List.setIfInBounds_toArray, List.set_cons_zero, List.set_cons_succ])
                  refine wpAnyG_done (by kernel_rfl) ?_ _
                  have HM4 := Lib.hid ((HM'.out.ext gR).boxW (HBL'.out.not hB6) (by have := gR.size; omega) (.bool b7) (.slice A7 k7 c7) (.slice B7 l7 d7))
                  have HA4 := Lib.hid (FId.put (B := W1.heap.size) (HMb.out _ gR) h7 n7 m7 (by omega) (by omega))
                  have hx4 := ext_put (hx'.trans gR) (b := B6) (by omega) (.bool b7) (.slice A7 k7 c7) (.slice B7 l7 d7)
                  have hs4 : W1.heap.size ≤ (((s7.setCell ⟨B6, 0, none⟩ (.bool b7)).setCell ⟨B6, 1, none⟩ (.slice A7 k7 c7)).setCell ⟨B6, 2, none⟩ (.slice B7 l7 d7)).heap.size := by have := gR.size; simp; omega
                  generalize ((s7.setCell ⟨B6, 0, none⟩ (.bool b7)).setCell ⟨B6, 1, none⟩ (.slice A7 k7 c7)).setCell ⟨B6, 2, none⟩ (.slice B7 l7 d7) = W4 at *
                  clear HM' HMb HMV HEC HS m0 m1 m2 gm0 gm1 gm2 h7 z7 n7 m7 hx' hs' gS gR hgs hgvl hgcl hMl
                  obtain ⟨m, hm⟩ : ∃ m, n = c + 1 + m := ⟨n - (c + 1), by omega⟩
                  have HMN := Lib.hid hm
                  have hmN : n - (c + 1) = m := by omega
                  have hmn : c + 1 + m ≤ 8 := by omega
                  have hcV3 : c + 1 + m ≤ cV := by omega
                  clear hm
                  go_upto_region 22 with (fail)
                  go_cut [98, 99, 100] (fun sv lv iv wx => W4 = wx ∧ lv = .int .i64 (m : Int) ∧ iv = .int .i64 0 ∧ ∃ off cp, sv = .slice (some ⟨gv, off, none⟩) m cp ∧ (0 < m → off = c + 1))
                  case first =>
                    by_cases hcc : cV = c + 1
                    · subst hcc
                      go_wp2
                      go_meet
                      exact ⟨rfl, rfl, rfl, 0, 0, rfl, fun h => by omega⟩
                    · go_wp2
                      go_meet
                      exact ⟨rfl, rfl, rfl, c + 1, _, rfl, fun _ => rfl⟩
                  case rest =>
                    obtain ⟨rfl, rfl, rfl, off, cp5, rfl, hoff⟩ := hcut
                    go_wp2
                    go_loopw [100] (fun iv wr => ∃ r : Nat, r ≤ m ∧ iv = .int .i64 r ∧ Hid (MatO K W0.heap.size wr (.slice (some ⟨gv, 0, none⟩) n cV) n n us' (bxV B6 :: us') (fun i' j' => if i' < c + 1 + r then dlm S c i' j' else S i' j')) ∧ Hid (Fr (.slice (some ⟨gv, 0, none⟩) n cV) us' W4 wr) ∧ Ext W0 wr) (fun iv _ => m - (intOf iv).toNat)
                    case atStart => exact ⟨0, Nat.zero_le _, rfl, Lib.hid (HM4.out.congr fun i' j' _ _ => dlm_start), Lib.hid (Fr.refl _ _ _), hx4⟩
                    case round =>
                      clear HM4 hx4
                      obtain ⟨r, hr, rfl, HMI, HFI, hxi⟩ := hrel
                      by_cases hrm : r < m
                      · obtain rfl : off = c + 1 := hoff (by omega)
                        have hin : c + 1 + r < n := by have := HMN.out; omega
                        obtain ⟨gi, ci, hui, hci, hfi, hgvl, hgil, _, _, hbi⟩ := HMI.out.row_of hin (by omega)
                        obtain ⟨gc0, ck0, huc0, hcc, hfc, _, hgcl, _, _, _⟩ := HMI.out.row_of hcn (by omega)
                        rw [HUC.out] at huc0
                        injection huc0 with huc0
                        injection huc0 with h1 h2 h3
                        injection h1 with h1
                        injection h1 with h1
                        subst h1 h3
                        obtain ⟨ni, A1, k1, c1, A2, k2, c2, e0, e1, e2, _, _, _, he, _, _⟩ := HMI.out.ent_at hui hcn
                        rw [if_neg (Nat.lt_irrefl _)] at he
                        obtain ⟨nd, D1, p1, d1, D2, p2, d2, z0, z1, z2, _, _, _, hze, _, _⟩ := HMI.out.ent_at HUC.out hcn
                        rw [dlm_row] at hze
                        have HEI := Lib.hid (he.any (HFS.out _ c hin hcn) (by omega) (by omega))
                        have HEC := Lib.hid (hze.any (HFS.out c c hcn hcn) (by omega) (by omega))
                        have HFQ := Lib.hid (FB.div (HFS.out _ c hin hcn) (HFS.out c c hcn hcn) (by omega) (by omega))
                        have HUI := Lib.hid hui
                        have hsr : W1.heap.size ≤ wr.heap.size := Nat.le_trans hs4 HFI.out.1
                        have hr1 : (0 : Int) ≤ (r : Int) := by omega
                        have hr2 : (r : Int) < (m : Int) := by omega
                        have HS := Lib.hid (fun (w' : World) (h : Ext wr w') => (⟨(h.cell (p := ⟨gv, c, none⟩) hgvl).trans hcc, ⟨(h.cell (p := ⟨gi, c * 3, none⟩) hgil).trans e0, (h.cell (p := ⟨gi, c * 3 + 1, none⟩) hgil).trans e1, (h.cell (p := ⟨gi, c * 3 + 2, none⟩) hgil).trans e2⟩, ⟨(h.cell (p := ⟨gc, c * 3, none⟩) hgcl).trans z0, (h.cell (p := ⟨gc, c * 3 + 1, none⟩) hgcl).trans z1, (h.cell (p := ⟨gc, c * 3 + 2, none⟩) hgcl).trans z2⟩⟩ : w'.cell? ⟨gv, c, none⟩ = some (.slice (some ⟨gc, 0, none⟩) n ck) ∧ (w'.cell? ⟨gi, c * 3, none⟩ = some (.bool ni) ∧ w'.cell? ⟨gi, c * 3 + 1, none⟩ = some (.slice A1 k1 c1) ∧ w'.cell? ⟨gi, c * 3 + 2, none⟩ = some (.slice A2 k2 c2)) ∧ (w'.cell? ⟨gc, c * 3, none⟩ = some (.bool nd) ∧ w'.cell? ⟨gc, c * 3 + 1, none⟩ = some (.slice D1 p1 d1) ∧ w'.cell? ⟨gc, c * 3 + 2, none⟩ = some (.slice D2 p2 d2))))
                        clear he hze e0 e1 e2 z0 z1 z2 hui hcc hfc hfi
                        go_upto_region 25 with (fail)
                        clear hci
                        go_cut [12] (fun pv wx => ∃ BY, pv = .pointer (some ⟨BY, 0, none⟩) ∧ W1.heap.size ≤ BY ∧ Hid (FId W1.heap.size wx BY (S (c + 1 + r) c / S c c)) ∧ Ext wr wx)
                        case first =>
                          refine wp_region_H (fun w' => Ext wr w') [16, 17] (by kernel_rfl) ?_
                          have gS : Ext wr wr.drew := (Below.refl _ _).drew
                          refine wpAnyH_take 0 (v := ?_) rfl (by kernel_rfl) (by kernel_rfl) (by kernel_rfl) (by kernel_rfl) (by kernel_rfl) (fun _ _ _ h => h) (by rfl) (fun w' hw' => ?_) gS ?_
                          rotate_left
                          focus (go_simp; (try with_reducible rfl); done)
                          (try simp only [Act.put, List.getElem_toArray, List.getElem_cons_succ, List.getElem_cons_zero, List.setIfInBounds_toArray, List.set_cons_zero, List.set_cons_succ])
                          refine wpAnyH_take 1 (v := ?_) rfl (by kernel_rfl) (by kernel_rfl) (by kernel_rfl) (by kernel_rfl) (by kernel_rfl) (fun _ _ _ h => h) (by rfl) (fun w' hw' => ?_) gS ?_
                          rotate_left
                          focus (go_simp; (try with_reducible rfl); done)
                          (try simp only [Act.put, List.getElem_toArray, List.getElem_cons_succ, List.getElem_cons_zero, List.setIfInBounds_toArray, List.set_cons_zero, List.set_cons_succ])
                          refine wpAnyH_take 2 (v := ?_) rfl (by kernel_rfl) (by kernel_rfl) (by kernel_rfl) (by kernel_rfl) (by kernel_rfl) (fun _ _ _ h => h) (by rfl) (fun w' hw' => ?_) gS ?_
                          rotate_left
                          focus (go_simp; (try with_reducible rfl); done)
                          (try simp only [Act.put, List.getElem_toArray, List.getElem_cons_succ, List.getElem_cons_zero, List.setIfInBounds_toArray, List.set_cons_zero, List.set_cons_succ])
                          refine wpAnyH_take 3 (v := ?_) rfl (by kernel_rfl) (by kernel_rfl) (by kernel_rfl) (by kernel_rfl) (by kernel_rfl) (fun _ _ _ h => h) (by rfl) (fun w' hw' => ?_) gS ?_
                          rotate_left
                          focus (have hh := HS.out _ hw'; go_split_ands; go_simp; (try with_reducible rfl); done)
                          (try simp only [Act.put, List.getElem_toArray, List.getElem_cons_succ, List.getElem_cons_zero, List.setIfInBounds_toArray, List.set_cons_zero, List.set_cons_succ])
                          refine wpAnyH_take 4 (v := ?_) rfl (by kernel_rfl) (by kernel_rfl) (by kernel_rfl) (by kernel_rfl) (by kernel_rfl) (fun _ _ _ h => h) (by rfl) (fun w' hw' => ?_) gS ?_
                          rotate_left
                          focus (go_simp; (try with_reducible rfl); done)
                          (try simp only [Act.put, List.getElem_toArray, List.getElem_cons_succ, List.getElem_cons_zero, List.setIfInBounds_toArray, List.set_cons_zero, List.set_cons_succ])
                          refine wpAnyH_take 5 (v := ?_) rfl (by kernel_rfl) (by kernel_rfl) (by kernel_rfl) (by kernel_rfl) (by kernel_rfl) (fun _ _ _ h => h) (by rfl) (fun w' hw' => ?_) gS ?_
                          rotate_left
                          focus (go_simp; (try with_reducible rfl); done)
                          (try simp only [Act.put, List.getElem_toArray, List.getElem_cons_succ, List.getElem_cons_zero, List.setIfInBounds_toArray, List.set_cons_zero, List.set_cons_succ])
                          refine wpAnyH_take 6 (v := ?_) rfl (by kernel_rfl) (by kernel_rfl) (by kernel_rfl) (by kernel_rfl) (by kernel_rfl) (fun _ _ _ h => h) (by rfl) (fun w' hw' => ?_) gS ?_
                          rotate_left
                          focus (go_simp; (try with_reducible rfl); done)
                          (try simp only [Act.put, List.getElem_toArray, List.getElem_cons_succ, List.getElem_cons_zero, List.setIfInBounds_toArray, List.set_cons_zero, List.set_cons_succ])
                          refine wpAnyH_take 7 (v := ?_) rfl (by kernel_rfl) (by kernel_rfl) (by kernel_rfl) (by kernel_rfl) (by kernel_rfl) (fun _ _ _ h => h) (by rfl) (fun w' hw' => ?_) gS ?_
                          rotate_left
                          focus (have hh := HS.out _ hw'; go_split_ands; go_simp; (try with_reducible rfl); done)
                          (try simp only [Act.put, List.getElem_toArray, List.getElem_cons_succ, List.getElem_cons_zero, List.setIfInBounds_toArray, List.set_cons_zero, List.set_cons_succ])
                          refine wpAnyH_take 8 (v := ?_) rfl (by kernel_rfl) (by kernel_rfl) (by kernel_rfl) (by kernel_rfl) (by kernel_rfl) (fun _ _ _ h => h) (by rfl) (fun w' hw' => ?_) gS ?_
                          rotate_left
                          focus (go_simp; (try with_reducible rfl); done)
                          (try simp only [Act.put, List.getElem_toArray, List.getElem_cons_succ, List.getElem_cons_zero, List.setIfInBounds_toArray, List.set_cons_zero, List.set_cons_succ])
                          refine wpAnyH_take 9 (v := ?_) rfl (by kernel_rfl) (by kernel_rfl) (by kernel_rfl) (by kernel_rfl) (by kernel_rfl) (fun _ _ _ h => h) (by rfl) (fun w' hw' => ?_) gS ?_
                          rotate_left
                          focus (go_simp; (try with_reducible rfl); done)
                          (try simp only [Act.put, List.getElem_toArray, List.getElem_cons_succ, List.getElem_cons_zero, List.setIfInBounds_toArray, List.set_cons_zero, List.set_cons_succ])
                          refine wpAnyH_take 10 (v := ?_) rfl (by kernel_rfl) (by kernel_rfl) (by kernel_rfl) (by kernel_rfl) (by kernel_rfl) (fun _ _ _ h => h) (by rfl) (fun w' hw' => ?_) gS ?_
                          rotate_left
                          focus (have hh := HS.out _ hw'; go_split_ands; go_simp; (try with_reducible rfl); done)
                          (try simp only [Act.put, List.getElem_toArray, List.getElem_cons_succ, List.getElem_cons_zero, List.setIfInBounds_toArray, List.set_cons_zero, List.set_cons_succ])
                          refine wpAnyH_two 11 15 (by kernel_rfl) rfl rfl (by rfl) (by rfl) (fun K hK => ?_) (fun K hK => ?_)
                          · (try simp only [List.getElem_toArray, List.getElem_cons_succ, List.getElem_cons_zero])
                            go_simp
                            go_at_call 50
                            refine (div_ok (HEI.out.below gS) (HEC.out.below gS) (by omega) HQS.out).mono ?_
                            rintro _ s7 ⟨b7, A7, k7, c7, B7, l7, d7, rfl, h7, x7, n7, m7⟩
                            have hgs := gS.size
                            have gS : Ext wr s7 := Ext.trans gS x7
                            have gR := gS
                            (try go_wp2_with fail)
                            refine hK.out _ _ (fun _ => gS) ?_
                            clear hK K
                            (try simp only [Act.put, List.getElem_toArray, List.getElem_cons_succ, List.getElem_cons_zero, List.setIfInBounds_toArray, List.set_cons_zero, List.set_cons_succ])
                            refine wpAnyH_take 12 (v := ?_) rfl (by kernel_rfl) (by kernel_rfl) (by kernel_rfl) (by kernel_rfl) (by kernel_rfl) (fun _ _ _ h => h) (by rfl) (fun w' hw' => ?_) gS ?_
                            rotate_left
                            focus (go_simp; (try with_reducible rfl); done)
                            (try simp only [Act.put, List.getElem_toArray, List.getElem_cons_succ, List.getElem_cons_zero, List.setIfInBounds_toArray, List.set_cons_zero, List.set_cons_succ])
                            refine wpAnyH_take 13 (v := ?_) rfl (by kernel_rfl) (by kernel_rfl) (by kernel_rfl) (by kernel_rfl) (by kernel_rfl) (fun _ _ _ h => h) (by rfl) (fun w' hw' => ?_) gS ?_
                            rotate_left
                            focus (go_simp; (try with_reducible rfl); done)
                            (try simp only [Act.put, List.getElem_toArray, List.getElem_cons_succ, List.getElem_cons_zero, List.setIfInBounds_toArray, List.set_cons_zero, List.set_cons_succ])
                            refine wpAnyH_takeF 14 (v := ?_) rfl (by kernel_rfl) (by kernel_rfl) (by kernel_rfl) (by kernel_rfl) (fun _ _ _ h => h) (by rfl) (fun w' => ?_) ?_
                            rotate_left
                            focus (go_simp; (try with_reducible rfl); done)
                            (try simp only [Act.put, List.getElem_toArray, List.getElem_cons_succ, List.getElem_cons_zero, List.setIfInBounds_toArray, List.set_cons_zero, List.set_cons_succ])
                            refine wpAnyH_one 15 (by kernel_rfl) rfl (by rfl) (fun K hK => ?_)
                            (try simp only [List.getElem_toArray, List.getElem_cons_succ, List.getElem_cons_zero])
                            go_simp
                            have hB := FBox.new s7 (.bool false) (.slice none 0 0) (.slice none 0 0) 34
                            have x9 : Ext s7 (s7.alloc (.cells #[.bool false, .slice none 0 0, .slice none 0 0] 34)) := ext_alloc (Below.refl _ _) _
                            generalize s7.alloc (.cells #[.bool false, .slice none 0 0, .slice none 0 0] 34) = s9 at *
                            have gS : Ext wr s9 := gR.trans x9
                            (try go_wp2_with fail)
                            refine hK.out _ _ (fun _ => gS) ?_
                            clear hK K
                            (try simp only [Act.put, List.getElem_toArray, List.getElem_cons_succ, List.getElem_cons_zero, List.setIfInBounds_toArray, List.set_cons_zero, List.set_cons_succ])
                            have hB2 := hB
                            obtain ⟨m0, m1, m2, gm0, gm1, gm2⟩ := hB2
                            refine wpAnyH_one 16 (by kernel_rfl) rfl (by rfl) (fun K hK => ?_)
                            (try simp only [List.getElem_toArray, List.getElem_cons_succ, List.getElem_cons_zero])
                            go_simp
                            refine hK.out _ _ (fun h => absurd h (by decide)) ?_
                            clear hK K
                            (try simp only [Act.put, List.getElem_toArray, List.getElem_cons_succ, List.getElem_cons_zero, List.setIfInBounds_toArray, List.set_cons_zero, List.set_cons_succ])
                            refine wpAnyH_one 17 (by kernel_rfl) rfl (by rfl) (fun K hK => ?_)
                            (try simp only [List.getElem_toArray, List.getElem_cons_succ, List.getElem_cons_zero])
                            go_simp
                            refine hK.out _ _ (fun h => absurd h (by decide)) ?_
                            clear hK K
                            (try simp only [Act.put, List.getElem_toArray, List.getElem_cons_succ, List.getElem_cons_zero, List.setIfInBounds_toArray, List.set_cons_zero, List.set_cons_succ])
                            refine wpAnyH_done (by kernel_rfl) ?_ _
                            go_wp2
                            go_meet
                            exact ⟨_, rfl, by have := gR.size; omega, Lib.hid ⟨b7, A7, k7, c7, B7, l7, d7, hB.put _ _ _, h7.below (ext_put x9 (Nat.le_refl _) _ _ _), n7.mono (by omega), m7.mono (by omega)⟩, ext_put gS (by have := gR.size; omega) _ _ _⟩
                          · (try simp only [List.getElem_toArray, List.getElem_cons_succ, List.getElem_cons_zero])
                            go_simp
                            have hB : FBox (wr.alloc (.cells #[.bool false, .slice none 0 0, .slice none 0 0] 34)).drew wr.heap.size (.bool false) (.slice none 0 0) (.slice none 0 0) := FBox.new wr (.bool false) (.slice none 0 0) (.slice none 0 0) 34
                            have gS : Ext wr (wr.alloc (.cells #[.bool false, .slice none 0 0, .slice none 0 0] 34)).drew := (ext_alloc (Below.refl _ _) _).drew
                            generalize (wr.alloc (.cells #[.bool false, .slice none 0 0, .slice none 0 0] 34)).drew = s9 at *
                            have hlB := hB.lt
                            (try go_wp2_with fail)
                            refine hK.out _ _ (fun _ => gS) ?_
                            clear hK K
                            (try simp only [Act.put, List.getElem_toArray, List.getElem_cons_succ, List.getElem_cons_zero, List.setIfInBounds_toArray, List.set_cons_zero, List.set_cons_succ])
                            refine wpAnyH_one 11 (by kernel_rfl) rfl (by rfl) (fun K hK => ?_)
                            (try simp only [List.getElem_toArray, List.getElem_cons_succ, List.getElem_cons_zero])
                            go_simp
                            go_at_call 50
                            refine (div_ok (HEI.out.below gS) (HEC.out.below gS) (by omega) HQS.out).mono ?_
                            rintro _ s7 ⟨b7, A7, k7, c7, B7, l7, d7, rfl, h7, x7, n7, m7⟩
                            have hgs := gS.size
                            have gS : Ext wr s7 := Ext.trans gS x7
                            have gR := gS
                            (try go_wp2_with fail)
                            refine hK.out _ _ (fun _ => gS) ?_
                            clear hK K
                            (try simp only [Act.put, List.getElem_toArray, List.getElem_cons_succ, List.getElem_cons_zero, List.setIfInBounds_toArray, List.set_cons_zero, List.set_cons_succ])
                            refine wpAnyH_take 12 (v := ?_) rfl (by kernel_rfl) (by kernel_rfl) (by kernel_rfl) (by kernel_rfl) (by kernel_rfl) (fun _ _ _ h => h) (by rfl) (fun w' hw' => ?_) gS ?_
                            rotate_left
                            focus (go_simp; (try with_reducible rfl); done)
                            (try simp only [Act.put, List.getElem_toArray, List.getElem_cons_succ, List.getElem_cons_zero, List.setIfInBounds_toArray, List.set_cons_zero, List.set_cons_succ])
                            refine wpAnyH_take 13 (v := ?_) rfl (by kernel_rfl) (by kernel_rfl) (by kernel_rfl) (by kernel_rfl) (by kernel_rfl) (fun _ _ _ h => h) (by rfl) (fun w' hw' => ?_) gS ?_
                            rotate_left
                            focus (go_simp; (try with_reducible rfl); done)
                            (try simp only [Act.put, List.getElem_toArray, List.getElem_cons_succ, List.getElem_cons_zero, List.setIfInBounds_toArray, List.set_cons_zero, List.set_cons_succ])
                            refine wpAnyH_takeF 14 (v := ?_) rfl (by kernel_rfl) (by kernel_rfl) (by kernel_rfl) (by kernel_rfl) (fun _ _ _ h => h) (by rfl) (fun w' => ?_) ?_
                            rotate_left
                            focus (go_simp; (try with_reducible rfl); done)
                            (try simp only [Act.put, List.getElem_toArray, List.getElem_cons_succ, List.getElem_cons_zero, List.setIfInBounds_toArray, List.set_cons_zero, List.set_cons_succ])
                            have hB := hB.below x7
                            have hB2 := hB
                            obtain ⟨m0, m1, m2, gm0, gm1, gm2⟩ := hB2
                            refine wpAnyH_one 16 (by kernel_rfl) rfl (by rfl) (fun K hK => ?_)
                            (try simp only [List.getElem_toArray, List.getElem_cons_succ, List.getElem_cons_zero])
                            go_simp
                            refine hK.out _ _ (fun h => absurd h (by decide)) ?_
                            clear hK K
                            (try simp only [Act.put, List.getElem_toArray, List.getElem_cons_succ, List.getElem_cons_zero, List.setIfInBounds_toArray, List.set_cons_zero, List.set_cons_succ])
                            refine wpAnyH_one 17 (by kernel_rfl) rfl (by rfl) (fun K hK => ?_)
                            (try simp only [List.getElem_toArray, List.getElem_cons_succ, List.getElem_cons_zero])
                            go_simp
                            refine hK.out _ _ (fun h => absurd h (by decide)) ?_
                            clear hK K
                            (try simp only [Act.put, List.getElem_toArray, List.getElem_cons_succ, List.getElem_cons_zero, List.setIfInBounds_toArray, List.set_cons_zero, List.set_cons_succ])
                            refine wpAnyH_done (by kernel_rfl) ?_ _
                            go_wp2
                            go_meet
                            exact ⟨_, rfl, hsr, Lib.hid (FId.put hB h7 n7 m7 hlB (by omega)), ext_put gS (Nat.le_refl _) _ _ _⟩
                        case rest =>
                          clear HS HEI HEC hgvl hgil hgcl
                          obtain ⟨BY, rfl, hBY, HBY, hyc⟩ := hcut
                          have HM5 := Lib.hid ((HMI.out.ext hyc).congr fun i' j' _ _ => mid1_start)
                          have HF5 := Lib.hid (HFI.out.trans (Fr.of_ext hyc))
                          have hx5 : Ext W0 wc := hxi.trans hyc
                          obtain ⟨W5, hW5⟩ : ∃ W5, W5 = wc := ⟨_, rfl⟩
                          subst hW5
                          clear HMI HFI hxi hyc
                          go_wp2
                          go_loopw [14] (fun iv wr => ∃ j : Nat, c ≤ j ∧ j ≤ n ∧ iv = .int .i64 j ∧ Hid (MatO K W0.heap.size wr (.slice (some ⟨gv, 0, none⟩) n cV) n n us' (bxV B6 :: us') (mid1 S c (c + 1 + r) j)) ∧ Hid (Fr (.slice (some ⟨gv, 0, none⟩) n cV) us' W5 wr) ∧ Ext W0 wr) (fun iv _ => n - (intOf iv).toNat)
                          case atStart => exact ⟨c, Nat.le_refl _, hc, rfl, HM5, Lib.hid (Fr.refl _ _ _), hx5⟩
                          case round =>
                            clear HM5 hx5
                            obtain ⟨j, hcj, hj', rfl, HMJ, HFJ, hxj⟩ := hrel
                            by_cases hjn : j < n
                            · obtain ⟨gc0, ck0, huc0, hcc, hfc, hgvl, hgcl, _, _, _⟩ := HMJ.out.row_of hcn (by omega)
                              rw [HUC.out] at huc0
                              injection huc0 with huc0
                              injection huc0 with h1 h2 h3
                              injection h1 with h1
                              injection h1 with h1
                              subst h1 h3
                              obtain ⟨ne, E1, l1, f1, E2, l2, f2, e0, e1, e2, t0, t1, t2, he, _, _⟩ := HMJ.out.ent_at HUI.out hjn
                              rw [(mid1_own (S := S) (j := j) (show c < c + 1 + r by omega)).1] at he
                              obtain ⟨nz, Z1, q1, b1, Z2, q2, b2, z0, z1, z2, _, _, _, hze, _, _⟩ := HMJ.out.ent_at HUC.out hjn
                              rw [(mid1_own (S := S) (j := j) (show c < c + 1 + r by omega)).2] at hze
                              have HE2 := Lib.hid (he.any (HFS.out _ j hin hjn) (by omega) (by omega))
                              have HZE := Lib.hid (hze.any (HFS.out c j hcn hjn) (by omega) (by omega))
                              have HFI1 := Lib.hid (HFS.out _ j hin hjn)
                              have HFM := Lib.hid (FB.mul HFQ.out (HFS.out c j hcn hjn) (by omega))
                              obtain ⟨ny, Y1, g1', o1, Y2, g2', o2, ⟨p0, p1, p2, _, _, _⟩, vY, _, _⟩ := HBY.out.fr HBL'.out hBY HFJ.out
                              have HPA := Lib.hid (FracV.any vY HFQ.out (by omega))
                              have hPl : BY < wr.heap.size := World.block_lt_of_cell? _ _ p0
                              have hgil : gi < wr.heap.size := World.block_lt_of_cell? _ _ e0
                              have hj1 : (0 : Int) ≤ (j : Int) := by omega
                              have hj2 : (j : Int) < (n : Int) := by omega
                              have HS := Lib.hid (fun (w' : World) (h : Ext wr w') => (⟨(h.cell (p := ⟨gv, c, none⟩) hgvl).trans hcc, ⟨(h.cell (p := ⟨gi, j * 3, none⟩) hgil).trans e0, (h.cell (p := ⟨gi, j * 3 + 1, none⟩) hgil).trans e1, (h.cell (p := ⟨gi, j * 3 + 2, none⟩) hgil).trans e2⟩, ⟨(h.cell (p := ⟨gc, j * 3, none⟩) hgcl).trans z0, (h.cell (p := ⟨gc, j * 3 + 1, none⟩) hgcl).trans z1, (h.cell (p := ⟨gc, j * 3 + 2, none⟩) hgcl).trans z2⟩, (h.cell (p := ⟨BY, 0, none⟩) hPl).trans p0, (h.cell (p := ⟨BY, 1, none⟩) hPl).trans p1, (h.cell (p := ⟨BY, 2, none⟩) hPl).trans p2⟩ : w'.cell? ⟨gv, c, none⟩ = some (.slice (some ⟨gc, 0, none⟩) n ck) ∧ (w'.cell? ⟨gi, j * 3, none⟩ = some (.bool ne) ∧ w'.cell? ⟨gi, j * 3 + 1, none⟩ = some (.slice E1 l1 f1) ∧ w'.cell? ⟨gi, j * 3 + 2, none⟩ = some (.slice E2 l2 f2)) ∧ (w'.cell? ⟨gc, j * 3, none⟩ = some (.bool nz) ∧ w'.cell? ⟨gc, j * 3 + 1, none⟩ = some (.slice Z1 q1 b1) ∧ w'.cell? ⟨gc, j * 3 + 2, none⟩ = some (.slice Z2 q2 b2)) ∧ w'.cell? ⟨BY, 0, none⟩ = some (.bool ny) ∧ w'.cell? ⟨BY, 1, none⟩ = some (.slice Y1 g1' o1) ∧ w'.cell? ⟨BY, 2, none⟩ = some (.slice Y2 g2' o2)))
                              have HZf := Lib.hid (fun (w' : World) (h : Ext wr w') => (⟨(h.frozen (p := ⟨gi, j * 3, none⟩) hgil).trans t0, (h.frozen (p := ⟨gi, j * 3 + 1, none⟩) hgil).trans t1, (h.frozen (p := ⟨gi, j * 3 + 2, none⟩) hgil).trans t2⟩ : w'.frozen? ⟨gi, j * 3, none⟩ = false ∧ w'.frozen? ⟨gi, j * 3 + 1, none⟩ = false ∧ w'.frozen? ⟨gi, j * 3 + 2, none⟩ = false))
                              clear e0 e1 e2 t0 t1 t2 z0 z1 z2 p0 p1 p2 hcc hfc he hze vY
                              go_upto_region 29 with (fail)
                              refine wp_region_G (fun w' => Ext wr w') [17] (by kernel_rfl) ?_
                              have gS : Ext wr wr.drew := (Below.refl _ _).drew
                              refine wpAnyG_take 0 (v := ?_) rfl (by kernel_rfl) (by kernel_rfl) (by kernel_rfl) (by kernel_rfl) (by rfl) (by kernel_rfl) (fun _ _ _ h => h) (by rfl) (fun w' hw' => ?_) gS ?_
                              rotate_left
                              focus (go_simp; (try with_reducible rfl); done)
                              (try simp only [Act.put, List.getElem_toArray, List.getElem_cons_succ, List.getElem_cons_zero, List.setIfInBounds_toArray, List.set_cons_zero, List.set_cons_succ])
                              refine wpAnyG_take 1 (v := ?_) rfl (by kernel_rfl) (by kernel_rfl) (by kernel_rfl) (by kernel_rfl) (by rfl) (by kernel_rfl) (fun _ _ _ h => h) (by rfl) (fun w' hw' => ?_) gS ?_
                              rotate_left
                              focus (go_simp; (try with_reducible rfl); done)
                              (try simp only [Act.put, List.getElem_toArray, List.getElem_cons_succ, List.getElem_cons_zero, List.setIfInBounds_toArray, List.set_cons_zero, List.set_cons_succ])
                              refine wpAnyG_take 2 (v := ?_) rfl (by kernel_rfl) (by kernel_rfl) (by kernel_rfl) (by kernel_rfl) (by rfl) (by kernel_rfl) (fun _ _ _ h => h) (by rfl) (fun w' hw' => ?_) gS ?_
                              rotate_left
                              focus (go_simp; (try with_reducible rfl); done)
                              (try simp only [Act.put, List.getElem_toArray, List.getElem_cons_succ, List.getElem_cons_zero, List.setIfInBounds_toArray, List.set_cons_zero, List.set_cons_succ])
                              refine wpAnyG_take 3 (v := ?_) rfl (by kernel_rfl) (by kernel_rfl) (by kernel_rfl) (by kernel_rfl) (by rfl) (by kernel_rfl) (fun _ _ _ h => h) (by rfl) (fun w' hw' => ?_) gS ?_
                              rotate_left
                              focus (go_simp; (try with_reducible rfl); done)
                              (try simp only [Act.put, List.getElem_toArray, List.getElem_cons_succ, List.getElem_cons_zero, List.setIfInBounds_toArray, List.set_cons_zero, List.set_cons_succ])
                              refine wpAnyG_take 4 (v := ?_) rfl (by kernel_rfl) (by kernel_rfl) (by kernel_rfl) (by kernel_rfl) (by rfl) (by kernel_rfl) (fun _ _ _ h => h) (by rfl) (fun w' hw' => ?_) gS ?_
                              rotate_left
                              focus (go_simp; (try with_reducible rfl); done)
                              (try simp only [Act.put, List.getElem_toArray, List.getElem_cons_succ, List.getElem_cons_zero, List.setIfInBounds_toArray, List.set_cons_zero, List.set_cons_succ])
                              refine wpAnyG_take 5 (v := ?_) rfl (by kernel_rfl) (by kernel_rfl) (by kernel_rfl) (by kernel_rfl) (by rfl) (by kernel_rfl) (fun _ _ _ h => h) (by rfl) (fun w' hw' => ?_) gS ?_
                              rotate_left
                              focus (have hh := HS.out _ hw'; go_split_ands; go_simp; (try with_reducible rfl); done)
                              (try simp only [Act.put, List.getElem_toArray, List.getElem_cons_succ, List.getElem_cons_zero, List.setIfInBounds_toArray, List.set_cons_zero, List.set_cons_succ])
                              refine wpAnyG_take 6 (v := ?_) rfl (by kernel_rfl) (by kernel_rfl) (by kernel_rfl) (by kernel_rfl) (by rfl) (by kernel_rfl) (fun _ _ _ h => h) (by rfl) (fun w' hw' => ?_) gS ?_
                              rotate_left
                              focus (have hh := HS.out _ hw'; go_split_ands; go_simp; (try with_reducible rfl); done)
                              (try simp only [Act.put, List.getElem_toArray, List.getElem_cons_succ, List.getElem_cons_zero, List.setIfInBounds_toArray, List.set_cons_zero, List.set_cons_succ])
                              refine wpAnyG_take 7 (v := ?_) rfl (by kernel_rfl) (by kernel_rfl) (by kernel_rfl) (by kernel_rfl) (by rfl) (by kernel_rfl) (fun _ _ _ h => h) (by rfl) (fun w' hw' => ?_) gS ?_
                              rotate_left
                              focus (go_simp; (try with_reducible rfl); done)
                              (try simp only [Act.put, List.getElem_toArray, List.getElem_cons_succ, List.getElem_cons_zero, List.setIfInBounds_toArray, List.set_cons_zero, List.set_cons_succ])
                              refine wpAnyG_take 8 (v := ?_) rfl (by kernel_rfl) (by kernel_rfl) (by kernel_rfl) (by kernel_rfl) (by rfl) (by kernel_rfl) (fun _ _ _ h => h) (by rfl) (fun w' hw' => ?_) gS ?_
                              rotate_left
                              focus (go_simp; (try with_reducible rfl); done)
                              (try simp only [Act.put, List.getElem_toArray, List.getElem_cons_succ, List.getElem_cons_zero, List.setIfInBounds_toArray, List.set_cons_zero, List.set_cons_succ])
                              refine wpAnyG_take 9 (v := ?_) rfl (by kernel_rfl) (by kernel_rfl) (by kernel_rfl) (by kernel_rfl) (by rfl) (by kernel_rfl) (fun _ _ _ h => h) (by rfl) (fun w' hw' => ?_) gS ?_
                              rotate_left
                              focus (go_simp; (try with_reducible rfl); done)
                              (try simp only [Act.put, List.getElem_toArray, List.getElem_cons_succ, List.getElem_cons_zero, List.setIfInBounds_toArray, List.set_cons_zero, List.set_cons_succ])
                              refine wpAnyG_take 10 (v := ?_) rfl (by kernel_rfl) (by kernel_rfl) (by kernel_rfl) (by kernel_rfl) (by rfl) (by kernel_rfl) (fun _ _ _ h => h) (by rfl) (fun w' hw' => ?_) gS ?_
                              rotate_left
                              focus (have hh := HS.out _ hw'; go_split_ands; go_simp; (try with_reducible rfl); done)
                              (try simp only [Act.put, List.getElem_toArray, List.getElem_cons_succ, List.getElem_cons_zero, List.setIfInBounds_toArray, List.set_cons_zero, List.set_cons_succ])
                              refine wpAnyG_take 11 (v := ?_) rfl (by kernel_rfl) (by kernel_rfl) (by kernel_rfl) (by kernel_rfl) (by rfl) (by kernel_rfl) (fun _ _ _ h => h) (by rfl) (fun w' hw' => ?_) gS ?_
                              rotate_left
                              focus (go_simp; (try with_reducible rfl); done)
                              (try simp only [Act.put, List.getElem_toArray, List.getElem_cons_succ, List.getElem_cons_zero, List.setIfInBounds_toArray, List.set_cons_zero, List.set_cons_succ])
                              refine wpAnyG_take 12 (v := ?_) rfl (by kernel_rfl) (by kernel_rfl) (by kernel_rfl) (by kernel_rfl) (by rfl) (by kernel_rfl) (fun _ _ _ h => h) (by rfl) (fun w' hw' => ?_) gS ?_
                              rotate_left
                              focus (go_simp; (try with_reducible rfl); done)
                              (try simp only [Act.put, List.getElem_toArray, List.getElem_cons_succ, List.getElem_cons_zero, List.setIfInBounds_toArray, List.set_cons_zero, List.set_cons_succ])
                              refine wpAnyG_take 13 (v := ?_) rfl (by kernel_rfl) (by kernel_rfl) (by kernel_rfl) (by kernel_rfl) (by rfl) (by kernel_rfl) (fun _ _ _ h => h) (by rfl) (fun w' hw' => ?_) gS ?_
                              rotate_left
                              focus (have hh := HS.out _ hw'; go_split_ands; go_simp; (try with_reducible rfl); done)
                              (try simp only [Act.put, List.getElem_toArray, List.getElem_cons_succ, List.getElem_cons_zero, List.setIfInBounds_toArray, List.set_cons_zero, List.set_cons_succ])
                              refine wpAnyG_one 14 (by kernel_rfl) rfl (by rfl) (fun K hK => ?_)
                              (try simp only [List.getElem_toArray, List.getElem_cons_succ, List.getElem_cons_zero])
                              go_simp
                              go_at_call 49
                              refine (mul_f (HPA.out.below gS) (HZE.out.below gS) (by omega)).mono ?_
                              rintro _ s6 ⟨b6, A6, k6, c6, B6', l6, d6, rfl, h6, x6, n6, m6⟩
                              have gS : Ext wr s6 := Ext.trans gS x6
                              (try go_wp2_with fail)
                              refine hK.out _ _ (fun _ => gS) ?_
                              clear hK K
                              (try simp only [Act.put, List.getElem_toArray, List.getElem_cons_succ, List.getElem_cons_zero, List.setIfInBounds_toArray, List.set_cons_zero, List.set_cons_succ])
                              refine wpAnyG_one 15 (by kernel_rfl) rfl (by rfl) (fun K hK => ?_)
                              (try simp only [List.getElem_toArray, List.getElem_cons_succ, List.getElem_cons_zero])
                              go_simp
                              have gQ := gS
                              go_at_call 51
                              refine (sub_f (HE2.out.below gS) (FracV.any h6 HFM.out (by omega)) HFI1.out HFM.out (by omega)).mono ?_
                              rintro _ s7 ⟨b7, A7, k7, c7, B7, l7, d7, rfl, h7, x7, n7, m7⟩
                              have gS : Ext wr s7 := Ext.trans gS x7
                              have gR := gS
                              (try go_wp2_with fail)
                              refine hK.out _ _ (fun _ => gS) ?_
                              clear hK K
                              (try simp only [Act.put, List.getElem_toArray, List.getElem_cons_succ, List.getElem_cons_zero, List.setIfInBounds_toArray, List.set_cons_zero, List.set_cons_succ])
                              refine wpAnyG_take 16 (v := ?_) rfl (by kernel_rfl) (by kernel_rfl) (by kernel_rfl) (by kernel_rfl) (by rfl) (by kernel_rfl) (fun _ _ _ h => h) (by rfl) (fun w' hw' => ?_) gS ?_
                              rotate_left
                              focus (go_simp; (try with_reducible rfl); done)
                              (try simp only [Act.put, List.getElem_toArray, List.getElem_cons_succ, List.getElem_cons_zero, List.setIfInBounds_toArray, List.set_cons_zero, List.set_cons_succ])
                              obtain ⟨z0, z1, z2⟩ := HZf.out _ gS
                              obtain ⟨_, ⟨q0, q1, q2⟩, _⟩ := HS.out _ gS
                              refine wpAnyG_one 17 (by kernel_rfl) rfl (by rfl) (fun K hK => ?_)
                              (try simp only [List.getElem_toArray, List.getElem_cons_succ, List.getElem_cons_zero])
                              go_simp
                              refine hK.out _ _ (fun h => absurd h (by decide)) ?_
                              clear hK K
                              (try simp only [Act.put, List.getElem_toArray, List.getElem_cons_succ, List.getElem_cons_zero, List.setIfInBounds_toArray, List.set_cons_zero, List.set_cons_succ])
                              refine wpAnyG_done (by kernel_rfl) ?_ _
                              go_wp2
                              go_roundw
                              case rel => exact ⟨j + 1, by omega, by omega, by go_num, Lib.hid ((HMJ.out.put gR HUI.out hjn (.inl h7) (n7.mono gQ.size) (m7.mono gQ.size)).congr fun i' j' _ _ => mid1_upd (by omega) hcj), Lib.hid ((HFJ.out.trans (Fr.of_ext gR)).put HUI.out j _ _ _), put_ext (hxj.trans gR) hbi _ _ _⟩
                              case measure => simp [intOf]; omega
                            · obtain rfl : n = j := by omega
                              have hjj : ¬ ((n : Int) < (n : Int)) := by omega
                              have HM6 := Lib.hid (HMJ.out.congr fun i' j' _ hj' => mid1_done hj')
                              have HF6 := Lib.hid (HF5.out.trans HFJ.out)
                              clear HMJ HFJ HF5 HBY
                              go_wp2
                              go_roundw
                              case rel => exact ⟨r + 1, by omega, by go_num, HM6, HF6, hxj⟩
                              case measure => simp [intOf]; omega
                      · obtain rfl : m = r := by omega
                        have hrr : ¬ ((m : Int) < (m : Int)) := by omega
                        have HM7 := Lib.hid (HMI.out.congr fun i' j' hi' _ => dlm_all HMN.out hi')
                        have HA7 := Lib.hid (HA4.out.fr HBL'.out hB6 HFI.out)
                        have hs7 : W1.heap.size ≤ wr.heap.size := Nat.le_trans hs4 HFI.out.1
                        have HFD := Lib.hid (show FBm (dlm S c) n n (5 ^ (c + 1) * L) from by rw [HNX.out]; exact fbm_dlm HFS.out (by omega) hcn)
                        have HFE := Lib.hid (show FB (a' * S c c) (3 + 5 ^ (c + 1) * L) from by rw [HNX.out]; exact HFm.out.mono (by omega))
                        clear HMI HFI HA4
                        go_wp2
                        go_roundw
                        case rel => exact ⟨c + 1, dlm S c, a' * S c c, us', by omega, by go_num, HM7, HBL', HA7, HSTEP, HFD, HFE, hxi, hs7⟩
                        case measure => simp [intOf]; omega
            · obtain rfl : n = p := by omega
              have hnp : ¬ ((n : Int) < (n : Int)) := by omega
              have hne : ((n : Int) == (n : Int)) = true := by simp
              have HD0 := Lib.hid (show D = 0 from stepD_no hcn HDT.out (piv_eq (M := Mc) (n := n) (c := c) (k := c) hp1 hp2 hpz (.inl rfl)).symm)
              have HFF := Lib.hid (fun (w' : World) (h : Ext wr w') => HF.out _ ((hx.trans hy).trans h))
              go_wp2_with (go_at_call 46; (with_reducible refine (fof_n (n := 0) (d := 1) (by omega) (by omega)).mono ?_); rintro _ s8 ⟨b8, A8, k8, c8, B8, l8, d8, rfl, h8, z8, n8, m8⟩; obtain ⟨r0, r1, r2, g0, g1, g2⟩ := HFF.out _ z8)
              rw [zero_firstM, ← HD0.out] at h8
              obtain ⟨q0, q1, q2⟩ := set3 r0 r1 r2 (.bool b8) (.slice A8 k8 c8) (.slice B8 l8 d8)
              refine bodyPost_ret (v := .tuple #[.agg #[.bool b8, .slice A8 k8 c8, .slice B8 l8 d8], .int .i64 0]) (by simp [results, Try.results17, go_sem, q0, q1, q2]) rfl ?_
              exact GivesFE.box (B := w.heap.size) (HE.out.trans ((hx.trans hy).trans z8)) h8 (n8.mono (by have := hy.size; omega)) (m8.mono (by have := hy.size; omega)) (Nat.le_refl _)
        · obtain rfl : n = c := by omega
          have hnc : ¬ ((n : Int) < (n : Int)) := by omega
          have hDT : acc = D := by rw [← HDT.out]; exact det_end.symm
          obtain ⟨cc, MA, mk, ml, MA', mk', ml', ⟨m0, m1, m2, _, _, _⟩, vM, nM, nM'⟩ := HAC.out
          rw [hDT] at vM
          obtain ⟨r0, r1, r2, g0, g1, g2⟩ := HF.out _ hx
          go_wp2
          obtain ⟨q0, q1, q2⟩ := set3 r0 r1 r2 (.bool cc) (.slice MA mk ml) (.slice MA' mk' ml')
          refine bodyPost_ret (v := .tuple #[.agg #[.bool cc, .slice MA mk ml, .slice MA' mk' ml'], .int .i64 0]) (by simp [results, Try.results17, go_sem, q0, q1, q2]) rfl ?_
          exact GivesFE.box (B := w.heap.size) (HE.out.trans hx) vM (nM.mono (by omega)) (nM'.mono (by omega)) (Nat.le_refl _)

end Go.Proofs.Ytmfigiifflljpaa
