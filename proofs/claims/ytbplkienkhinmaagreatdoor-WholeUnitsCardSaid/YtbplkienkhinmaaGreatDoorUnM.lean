/- Units of weight: meet. -/
import Derived.Test.YtbplkienkhinmaaGreatDoorUnSp
set_option linter.unusedVariables false
set_option linter.unusedSimpArgs false
set_option maxRecDepth 100000
namespace Go.Proofs.YtbplkienkhinmaaGreatDoor
open Go.RowKit Num

/-- A box that holds a canonical fraction whose limbs lay there when the call began. -/
def BoxQ (w wx : World) (b : Nat) (q : Rat) : Prop := ∃ c A k l A' k' l', FBox wx b (.bool c) (.slice A k l) (.slice A' k' l') ∧ FracV w c (.slice A k l) (.slice A' k' l') q
theorem meet_pre (a b : List (Rat × Rat)) (x : Rat × Rat) (i j : Nat) : (meetL (a.take i) b ++ meetR x (b.take j)).length ≤ i * b.length + j := by
  have h1 := meetL_length b (a.take i)
  have h2 := meetR_length x (b.take j)
  rw [List.length_take] at h1 h2
  rw [List.length_append]
  have h3 : min i a.length * b.length ≤ i * b.length := Nat.mul_le_mul (by omega) (Nat.le_refl _)
  omega
theorem meet_nil (a b : List (Rat × Rat)) (x : Rat × Rat) (i : Nat) : meetL (a.take i) b ++ meetR x (b.take 0) = meetL (a.take i) b := by
  rw [List.take_zero]
  exact List.append_nil _
theorem meet_all (a b : List (Rat × Rat)) {x : Rat × Rat} {i : Nat} (h : a[i]? = some x) : meetL (a.take i) b ++ meetR x (b.take b.length) = meetL (a.take (i + 1)) b := by
  rw [meetL_succ a b h, List.take_length]
theorem meet_next (a b : List (Rat × Rat)) (x : Rat × Rat) (i : Nat) {j : Nat} {y : Rat × Rat} (h : b[j]? = some y) : meetL (a.take i) b ++ meetR x (b.take (j + 1)) = (meetL (a.take i) b ++ meetR x (b.take j)) ++ meet1 x y := by
  rw [meetR_succ x b h, List.append_assoc]
theorem two_boxes (W : World) (b : Bool) (s t : Value) (b' : Bool) (s' t' : Value) (ty : TypeId) : FBox ((W.alloc (.cells #[.bool b, s, t] ty)).alloc (.cells #[.bool b', s', t'] ty)).drew W.heap.size (.bool b) s t ∧ FBox ((W.alloc (.cells #[.bool b, s, t] ty)).alloc (.cells #[.bool b', s', t'] ty)).drew (W.heap.size + 1) (.bool b') s' t' ∧ Ext W ((W.alloc (.cells #[.bool b, s, t] ty)).alloc (.cells #[.bool b', s', t'] ty)).drew := by
  refine ⟨(FBox.new W (.bool b) s t ty).below (ext_alloc (Below.refl _ _) _).drew, ?_, (ext_alloc (ext_alloc (Below.refl _ _) _) _).drew⟩
  have h := (FBox.new (W.alloc (.cells #[.bool b, s, t] ty)) (.bool b') s' t' ty).below (Below.refl _ _).drew
  rw [show (W.alloc (.cells #[.bool b, s, t] ty)).heap.size = W.heap.size + 1 from by simp] at h
  exact h
theorem SixC.grown {w w' : World} {row : Option Nat} {b o : Nat} {x0 x1 x2 y0 y1 y2 : Value} (h : SixC w b o x0 x1 x2 y0 y1 y2) (hg : w.grownBy w' row) (hne : ∀ g, row = some g → g ≠ b) : SixC w' b o x0 x1 x2 y0 y1 y2 := by
  have k : ∀ {j : Nat} {u : Value}, w.cell? ⟨b, j, none⟩ = some u → w'.cell? ⟨b, j, none⟩ = some u := fun {j u} hu => hg.cell hu (fun e => hne b e.symm rfl)
  exact ⟨k h.1, k h.2.1, k h.2.2.1, k h.2.2.2.1, k h.2.2.2.2.1, k h.2.2.2.2.2⟩
/-- A list of spans alone. -/
def GivesSS (w : World) (ss : List (Rat × Rat)) (e : Ending) (w' : World) : Prop := ∃ A c, e = .returned (.slice A ss.length c) ∧ SpansV w' (.slice A ss.length c) ss ∧ Ext w w'

set_option maxHeartbeats 16000000 in
theorem umeet {va vb : Value} {a b : List (Rat × Rat)} {w : World} (ha : SpansV w va a) (hb : SpansV w vb b) (fa : AllS (fun q => FB q 3) a) (fb : AllS (fun q => FB q 3) b) (hla : a.length ≤ 10000) (hlb : b.length ≤ 100) :
    Calls Tryz.prog 21 #[va, vb] w (GivesSS w (meetL a b)) := by
  obtain ⟨i0, hi, hz0, hz1, hz2⟩ := info_parts info_span
  have HA := Lib.hid ha
  have HB := Lib.hid hb
  have HFA := Lib.hid fa
  have HFB := Lib.hid fb
  obtain ⟨A, c, rfl, hc1, hc2⟩ := ha.form
  obtain ⟨A', c', rfl, hc3, hc4⟩ := hb.form
  clear ha hb fa fb
  go_enter Tryz.func21, Tryz.ntmps21
  go_wp2
  go_loopw [5, 14] (fun ov iv wr => ∃ (i : Nat) (ts : List Fc), i ≤ a.length ∧ iv = .int .i64 i ∧ OwnS w.heap.size wr ov ts (meetL (a.take i) b) ∧ Ext w wr) (fun _ iv _ => a.length - (intOf iv).toNat)
  case atStart => exact ⟨0, [], Nat.zero_le _, rfl, OwnS.nil_ _ _, Below.refl _ _⟩
  case round =>
    obtain ⟨i, ts, hi0, rfl, hown, hx⟩ := hrel
    by_cases hin : i < a.length
    · obtain ⟨x, hxa⟩ : ∃ x, a[i]? = some x := ⟨_, List.getElem?_eq_getElem hin⟩
      obtain ⟨bx, ox, m1, A1, k1, c1, A2, k2, c2, m2, A3, k3, c3, A4, k4, c4, e, hbx, hsx, fx1, fx2⟩ := HA.out.at_ hxa
      subst e
      obtain ⟨e0, e1, e2, e3, e4, e5⟩ := hsx.below hx
      have hi1 : (0 : Int) ≤ (i : Int) := by omega
      have hi2 : (i : Int) < (a.length : Int) := by omega
      have HXA := Lib.hid hxa
      have HXF := Lib.hid (HFA.out x (List.mem_of_getElem? hxa))
      have HX1 := Lib.hid fx1
      have HX2 := Lib.hid fx2
      clear hxa hsx fx1 fx2
      go_upto_region 5 with (fail)
      have hSX := SixC.new wr (.bool m1) (.slice A1 k1 c1) (.slice A2 k2 c2) (.bool m2) (.slice A3 k3 c3) (.slice A4 k4 c4) 40
      have hown1 := hown.ext (ext_alloc (Below.refl _ wr) (.cells #[.bool m1, .slice A1 k1 c1, .slice A2 k2 c2, .bool m2, .slice A3 k3 c3, .slice A4 k4 c4] 40))
      have X1 : Ext w (wr.alloc (.cells #[.bool m1, .slice A1 k1 c1, .slice A2 k2 c2, .bool m2, .slice A3 k3 c3, .slice A4 k4 c4] 40)) := ext_alloc hx _
      have hrowb : ∀ g, u5.ownBlock = some g → g ≠ wr.heap.size := fun g hg => by have := (hown.lt hg).2; omega
      have hBXl : wr.heap.size < (wr.alloc (.cells #[.bool m1, .slice A1 k1 c1, .slice A2 k2 c2, .bool m2, .slice A3 k3 c3, .slice A4 k4 c4] 40)).heap.size := by simp
      clear e0 e1 e2 e3 e4 e5 hown
      generalize wr.alloc (.cells #[.bool m1, .slice A1 k1 c1, .slice A2 k2 c2, .bool m2, .slice A3 k3 c3, .slice A4 k4 c4] 40) = W1 at *
      generalize wr.heap.size = BX at *
      have hbx0 : ∀ g, u5.ownBlock = some g → g ≠ BX := fun g hg => hrowb g hg
      clear hrowb
      go_wp2
      go_loopw [5, 20] (fun ov jv wr => ∃ (j : Nat) (ts : List Fc), j ≤ b.length ∧ jv = .int .i64 j ∧ OwnS w.heap.size wr ov ts (meetL (a.take i) b ++ meetR x (b.take j)) ∧ Ext w wr ∧ SixC wr BX 0 (.bool m1) (.slice A1 k1 c1) (.slice A2 k2 c2) (.bool m2) (.slice A3 k3 c3) (.slice A4 k4 c4) ∧ ∀ g, ov.ownBlock = some g → g ≠ BX) (fun _ jv _ => b.length - (intOf jv).toNat)
      case atStart => exact ⟨0, ts, Nat.zero_le _, rfl, by rw [meet_nil]; exact hown1, X1, hSX, hbx0⟩
      case round =>
        clear hown1 X1 hSX hbx0
        obtain ⟨j, ts, hj0, rfl, hown, hx, hsx, hbx⟩ := hrel
        by_cases hjn : j < b.length
        · obtain ⟨y, hyb⟩ : ∃ y, b[j]? = some y := ⟨_, List.getElem?_eq_getElem hjn⟩
          obtain ⟨by_, oy, n1, A5, k5, c5, A6, k6, c6, n2, A7, k7, c7, A8, k8, c8, e, hby, hsy, fy1, fy2⟩ := HB.out.at_ hyb
          subst e
          obtain ⟨e0, e1, e2, e3, e4, e5⟩ := hsy.below hx
          have hj1 : (0 : Int) ≤ (j : Int) := by omega
          have hj2 : (j : Int) < (b.length : Int) := by omega
          have HYF := Lib.hid (HFB.out y (List.mem_of_getElem? hyb))
          have HY1 := Lib.hid fy1
          have HY2 := Lib.hid fy2
          have HNX := Lib.hid (meet_next a b x i hyb)
          have HSL := Lib.hid (show (meetL (a.take i) b ++ meetR x (b.take j)).length ≤ 1000100 from by
            have h1 := meet_pre a b x i j
            have h2 : i * b.length ≤ 10000 * 100 := Nat.mul_le_mul (by omega) hlb
            omega)
          clear hyb hsy fy1 fy2
          go_upto_region 8 with (fail)
          have hSY := SixC.new wr (.bool n1) (.slice A5 k5 c5) (.slice A6 k6 c6) (.bool n2) (.slice A7 k7 c7) (.slice A8 k8 c8) 40
          have hown2 := hown.ext (ext_alloc (Below.refl _ wr) (.cells #[.bool n1, .slice A5 k5 c5, .slice A6 k6 c6, .bool n2, .slice A7 k7 c7, .slice A8 k8 c8] 40))
          have hsx2 := hsx.below (ext_alloc (Below.refl _ wr) (.cells #[.bool n1, .slice A5 k5 c5, .slice A6 k6 c6, .bool n2, .slice A7 k7 c7, .slice A8 k8 c8] 40))
          have hBXl : BX < (wr.alloc (.cells #[.bool n1, .slice A5 k5 c5, .slice A6 k6 c6, .bool n2, .slice A7 k7 c7, .slice A8 k8 c8] 40)).heap.size := by
            have : BX < wr.heap.size := World.block_lt_of_cell? _ _ hsx.1
            simp
            omega
          have X2 : Ext w (wr.alloc (.cells #[.bool n1, .slice A5 k5 c5, .slice A6 k6 c6, .bool n2, .slice A7 k7 c7, .slice A8 k8 c8] 40)) := ext_alloc hx _
          clear e0 e1 e2 e3 e4 e5 hown hsx
          generalize wr.alloc (.cells #[.bool n1, .slice A5 k5 c5, .slice A6 k6 c6, .bool n2, .slice A7 k7 c7, .slice A8 k8 c8] 40) = W2 at *
          generalize wr.heap.size = BY at *
          have HSY := Lib.hid (fun (w' : World) (h : Ext W2 w') => (hSY.below h).zero)
          have HSZ := Lib.hid (fun (w' : World) (h : Ext W2 w') => (hsx2.below h).zero)
          have HSX2 := Lib.hid hsx2
          have HBX := Lib.hid (And.intro hbx hBXl)
          have HXW := Lib.hid X2
          have HOX := Lib.hid hown2
          have HV1 := Lib.hid (fun (q : Rat) (c : Bool) (s t : Value) (h : FracV w c s t q) => (⟨Far.new h.2.1 hown2.new, Far.new h.2.2 hown2.new⟩ : Far s u5 ∧ Far t u5))
          clear hSY X2 hown2 hsx2 hbx hBXl
          have HS := Lib.hid (fun (w' : World) (h : Ext W2 w') => HSZ.out w' h)
          go_cut [10, 11] (fun lv hv wx => ∃ L H, lv = .pointer (some ⟨L, 0, none⟩) ∧ hv = .pointer (some ⟨H, 0, none⟩) ∧ (W2.heap.size ≤ L ∧ W2.heap.size ≤ H ∧ L ≠ H) ∧ FBox wx L (.bool m1) (.slice A1 k1 c1) (.slice A2 k2 c2) ∧ FBox wx H (.bool m2) (.slice A3 k3 c3) (.slice A4 k4 c4) ∧ Ext W2 wx)
          case first =>
            refine wp_region_G (fun w' => Ext W2 w') [] (by kernel_rfl) ?_
            have gS : Ext W2 W2.drew := (Below.refl _ _).drew
            refine wpAnyG_take 0 (v := ?_) rfl (by kernel_rfl) (by kernel_rfl) (by kernel_rfl) (by kernel_rfl) (by rfl) (by kernel_rfl) (fun _ _ _ h => h) (by rfl) (fun w' hw' => ?_) gS ?_
            rotate_left
            focus (go_simp; (try with_reducible rfl); done)
            (try simp only [Act.put, List.getElem_toArray, List.getElem_cons_succ, List.getElem_cons_zero, List.setIfInBounds_toArray, List.set_cons_zero, List.set_cons_succ])
            refine wpAnyG_take 1 (v := ?_) rfl (by kernel_rfl) (by kernel_rfl) (by kernel_rfl) (by kernel_rfl) (by rfl) (by kernel_rfl) (fun _ _ _ h => h) (by rfl) (fun w' hw' => ?_) gS ?_
            rotate_left
            focus (have hh := HS.out _ hw'; go_split_ands; go_simp; (try with_reducible rfl); done)
            (try simp only [Act.put, List.getElem_toArray, List.getElem_cons_succ, List.getElem_cons_zero, List.setIfInBounds_toArray, List.set_cons_zero, List.set_cons_succ])
            refine wpAnyG_take 2 (v := ?_) rfl (by kernel_rfl) (by kernel_rfl) (by kernel_rfl) (by kernel_rfl) (by rfl) (by kernel_rfl) (fun _ _ _ h => h) (by rfl) (fun w' hw' => ?_) gS ?_
            rotate_left
            focus (go_simp; (try with_reducible rfl); done)
            (try simp only [Act.put, List.getElem_toArray, List.getElem_cons_succ, List.getElem_cons_zero, List.setIfInBounds_toArray, List.set_cons_zero, List.set_cons_succ])
            refine wpAnyG_take 3 (v := ?_) rfl (by kernel_rfl) (by kernel_rfl) (by kernel_rfl) (by kernel_rfl) (by rfl) (by kernel_rfl) (fun _ _ _ h => h) (by rfl) (fun w' hw' => ?_) gS ?_
            rotate_left
            focus (have hh := HS.out _ hw'; go_split_ands; go_simp; (try with_reducible rfl); done)
            (try simp only [Act.put, List.getElem_toArray, List.getElem_cons_succ, List.getElem_cons_zero, List.setIfInBounds_toArray, List.set_cons_zero, List.set_cons_succ])
            refine wpAnyG_two 4 5 (by kernel_rfl) rfl rfl (by rfl) (by rfl) (fun K hK => ?_) (fun K hK => ?_)
            · go_simp
              have gS := ext_alloc gS (.cells #[.bool false, .slice none 0 0, .slice none 0 0] 27)
              (try go_wp2_with fail)
              refine hK.out _ _ (fun _ => gS) ?_
              clear hK K
              (try simp only [Act.put, List.getElem_toArray, List.getElem_cons_succ, List.getElem_cons_zero, List.setIfInBounds_toArray, List.set_cons_zero, List.set_cons_succ])
              refine wpAnyG_one 5 (by kernel_rfl) rfl (by rfl) (fun K hK => ?_)
              go_simp
              have gS := ext_alloc gS (.cells #[.bool false, .slice none 0 0, .slice none 0 0] 27)
              (try go_wp2_with fail)
              refine hK.out _ _ (fun _ => gS) ?_
              clear hK K
              (try simp only [Act.put, List.getElem_toArray, List.getElem_cons_succ, List.getElem_cons_zero, List.setIfInBounds_toArray, List.set_cons_zero, List.set_cons_succ])
              refine wpAnyG_one 6 (by kernel_rfl) rfl (by rfl) (fun K hK => ?_)
              go_simp
              (try go_wp2_with fail)
              refine hK.out _ _ (fun _ => (ext_alloc (ext_alloc (Below.refl _ _) _) _).drew) ?_
              clear hK K
              (try simp only [Act.put, List.getElem_toArray, List.getElem_cons_succ, List.getElem_cons_zero, List.setIfInBounds_toArray, List.set_cons_zero, List.set_cons_succ])
              refine wpAnyG_one 7 (by kernel_rfl) rfl (by rfl) (fun K hK => ?_)
              go_simp
              (try go_wp2_with fail)
              refine hK.out _ _ (fun _ => (ext_alloc (ext_alloc (Below.refl _ _) _) _).drew) ?_
              clear hK K
              (try simp only [Act.put, List.getElem_toArray, List.getElem_cons_succ, List.getElem_cons_zero, List.setIfInBounds_toArray, List.set_cons_zero, List.set_cons_succ])
              refine wpAnyG_done (by kernel_rfl) ?_ _
              go_wp2
              go_meet
              have T := two_boxes W2 m1 (.slice A1 k1 c1) (.slice A2 k2 c2) m2 (.slice A3 k3 c3) (.slice A4 k4 c4) 27
              exact ⟨_, _, rfl, rfl, by omega, T.1, T.2.1, T.2.2⟩
            · go_simp
              have gS := ext_alloc gS (.cells #[.bool false, .slice none 0 0, .slice none 0 0] 27)
              (try go_wp2_with fail)
              refine hK.out _ _ (fun _ => gS) ?_
              clear hK K
              (try simp only [Act.put, List.getElem_toArray, List.getElem_cons_succ, List.getElem_cons_zero, List.setIfInBounds_toArray, List.set_cons_zero, List.set_cons_succ])
              refine wpAnyG_one 4 (by kernel_rfl) rfl (by rfl) (fun K hK => ?_)
              go_simp
              have gS := ext_alloc gS (.cells #[.bool false, .slice none 0 0, .slice none 0 0] 27)
              (try go_wp2_with fail)
              refine hK.out _ _ (fun _ => gS) ?_
              clear hK K
              (try simp only [Act.put, List.getElem_toArray, List.getElem_cons_succ, List.getElem_cons_zero, List.setIfInBounds_toArray, List.set_cons_zero, List.set_cons_succ])
              refine wpAnyG_one 6 (by kernel_rfl) rfl (by rfl) (fun K hK => ?_)
              go_simp
              (try go_wp2_with fail)
              refine hK.out _ _ (fun _ => (ext_alloc (ext_alloc (Below.refl _ _) _) _).drew) ?_
              clear hK K
              (try simp only [Act.put, List.getElem_toArray, List.getElem_cons_succ, List.getElem_cons_zero, List.setIfInBounds_toArray, List.set_cons_zero, List.set_cons_succ])
              refine wpAnyG_one 7 (by kernel_rfl) rfl (by rfl) (fun K hK => ?_)
              go_simp
              (try go_wp2_with fail)
              refine hK.out _ _ (fun _ => (ext_alloc (ext_alloc (Below.refl _ _) _) _).drew) ?_
              clear hK K
              (try simp only [Act.put, List.getElem_toArray, List.getElem_cons_succ, List.getElem_cons_zero, List.setIfInBounds_toArray, List.set_cons_zero, List.set_cons_succ])
              refine wpAnyG_done (by kernel_rfl) ?_ _
              go_wp2
              go_meet
              have T := two_boxes W2 m2 (.slice A3 k3 c3) (.slice A4 k4 c4) m1 (.slice A1 k1 c1) (.slice A2 k2 c2) 27
              exact ⟨_, _, rfl, rfl, by omega, T.2.1, T.1, T.2.2⟩
          case rest =>
            obtain ⟨L, H, rfl, rfl, ⟨hL, hH, hne⟩, bL, bH, hX3⟩ := hcut
            obtain ⟨W3, hW3⟩ : ∃ W3 : World, W3 = wc := ⟨_, rfl⟩
            subst hW3
            obtain ⟨z1, hz1'⟩ : ∃ z, z = cmpQ y.1 x.1 := ⟨_, rfl⟩
            obtain ⟨z2, hz2'⟩ : ∃ z, z = cmpQ y.2 x.2 := ⟨_, rfl⟩
            have hc1 : 0 < z1 ↔ x.1 < y.1 := by rw [hz1']; exact cmpQ_pos _ _
            have hc2 : z2 < 0 ↔ y.2 < x.2 := by rw [hz2']; exact cmpQ_neg _ _
            have HC1 := Lib.hid (fun (w' : World) (h : Ext w w') => cmp_e (L := 3) (M := 3) (FracV.any (HY1.out.below h) HYF.out.1 (by omega)) (FracV.any (HX1.out.below h) HXF.out.1 (by omega)) (by omega) hz1'.symm)
            have HC2 := Lib.hid (fun (w' : World) (h : Ext w w') => cmp_e (L := 3) (M := 3) (FracV.any (HY2.out.below h) HYF.out.2 (by omega)) (FracV.any (HX2.out.below h) HXF.out.2 (by omega)) (by omega) hz2'.symm)
            clear hz1' hz2'
            obtain ⟨lo, hlo⟩ : ∃ lo, lo = if x.1 < y.1 then y.1 else x.1 := ⟨_, rfl⟩
            obtain ⟨hi', hhi⟩ : ∃ hi', hi' = if y.2 < x.2 then y.2 else x.2 := ⟨_, rfl⟩
            have HLO := Lib.hid hlo
            have HHI := Lib.hid hhi
            have HLF := Lib.hid (show FB lo 3 from by rw [hlo]; split; exact HYF.out.1; exact HXF.out.1)
            have HHF := Lib.hid (show FB hi' 3 from by rw [hhi]; split; exact HYF.out.2; exact HXF.out.2)
            have hm1 : meet1 x y = if lo ≤ hi' then [(lo, hi')] else [] := by rw [hlo, hhi]; rfl
            clear hlo hhi
            have HM1 := Lib.hid hm1
            clear hm1
            have HBH := Lib.hid bH
            have HBL := Lib.hid bL
            obtain ⟨y0, y1, y2, y3, y4, y5⟩ := HSY.out _ hX3
            obtain ⟨l0, l1, l2, lz0, lz1, lz2⟩ := bL
            have HX3 := Lib.hid hX3
            clear bH HS
            go_upto_if 32 with (go_at_call 9; (with_reducible refine (HC1.out _ (HXW.out.trans hX3)).mono ?_); rintro e w4 ⟨rfl, x4⟩)
            have g4 : Ext W2 w4 := HX3.out.trans x4
            go_cut [] (fun wx => BoxQ w wx L lo ∧ FBox wx H (.bool m2) (.slice A3 k3 c3) (.slice A4 k4 c4) ∧ Ext W2 wx)
            case first =>
              obtain ⟨y0, y1, y2, y3, y4, y5⟩ := HSY.out _ g4
              obtain ⟨l0, l1, l2, lz0, lz1, lz2⟩ := HBL.out.below x4
              by_cases hq : x.1 < y.1
              · have hz : 0 < z1 := hc1.2 hq
                go_wp2
                go_meet
                exact ⟨⟨_, _, _, _, _, _, _, FBox.put (HBL.out.below x4) _ _ _, by rw [HLO.out, if_pos hq]; exact HY1.out⟩, FBox.away (HBH.out.below x4) hne _ _ _, ext_put g4 hL _ _ _⟩
              · have hz : ¬ 0 < z1 := fun h => hq (hc1.1 h)
                go_wp2
                go_meet
                exact ⟨⟨_, _, _, _, _, _, _, HBL.out.below x4, by rw [HLO.out, if_neg hq]; exact HX1.out⟩, HBH.out.below x4, g4⟩
            case rest =>
              obtain ⟨⟨lc, LA, lk, ll, LA', lk', ll', bL, vL⟩, bH, hX5⟩ := hcut
              obtain ⟨W5, hW5⟩ : ∃ W5 : World, W5 = wc := ⟨_, rfl⟩
              subst hW5
              clear y0 y1 y2 y3 y4 y5 l0 l1 l2 lz0 lz1 lz2 HBL HBH g4 x4 hX3
              have HLV := Lib.hid vL
              have HBL := Lib.hid bL
              have HBH := Lib.hid bH
              have HX5 := Lib.hid hX5
              obtain ⟨y0, y1, y2, y3, y4, y5⟩ := HSY.out _ hX5
              obtain ⟨h0, h1, h2, hz0, hz1_, hz2_⟩ := bH
              clear bL vL
              go_upto_if 39 with (go_at_call 9; (with_reducible refine (HC2.out _ (HXW.out.trans hX5)).mono ?_); rintro e w6 ⟨rfl, x6⟩)
              have g6 : Ext W2 w6 := HX5.out.trans x6
              go_cut [] (fun wx => BoxQ w wx H hi' ∧ FBox wx L (.bool lc) (.slice LA lk ll) (.slice LA' lk' ll') ∧ Ext W2 wx)
              case first =>
                obtain ⟨y0, y1, y2, y3, y4, y5⟩ := HSY.out _ g6
                obtain ⟨h0, h1, h2, hz0, hz1_, hz2_⟩ := HBH.out.below x6
                by_cases hq : y.2 < x.2
                · have hz : z2 < 0 := hc2.2 hq
                  go_wp2
                  go_meet
                  exact ⟨⟨_, _, _, _, _, _, _, FBox.put (HBH.out.below x6) _ _ _, by rw [HHI.out, if_pos hq]; exact HY2.out⟩, FBox.away (HBL.out.below x6) hne.symm _ _ _, ext_put g6 hH _ _ _⟩
                · have hz : ¬ z2 < 0 := fun h => hq (hc2.1 h)
                  go_wp2
                  go_meet
                  exact ⟨⟨_, _, _, _, _, _, _, HBH.out.below x6, by rw [HHI.out, if_neg hq]; exact HX2.out⟩, HBL.out.below x6, g6⟩
              case rest =>
                obtain ⟨⟨hc, HA_, hk, hl, HA', hk', hl', bH, vH⟩, bL, hX6⟩ := hcut
                obtain ⟨W6, hW6⟩ : ∃ W6 : World, W6 = wc := ⟨_, rfl⟩
                subst hW6
                clear y0 y1 y2 y3 y4 y5 h0 h1 h2 hz0 hz1_ hz2_ HBL HBH g6 x6 hX5
                have HHV := Lib.hid vH
                have HBB := Lib.hid (fun (w' : World) (h : Ext W6 w') => And.intro (bL.below h) (bH.below h))
                have hX6' := hX6
                have HX6 := Lib.hid hX6
                obtain ⟨z3, hz3'⟩ : ∃ z, z = cmpQ lo hi' := ⟨_, rfl⟩
                have hc3 : z3 ≤ 0 ↔ lo ≤ hi' := by rw [hz3']; exact cmp_le
                have HC3 := Lib.hid (fun (w' : World) (h : Ext w w') => cmp_e (L := 3) (M := 3) (FracV.any (HLV.out.below h) HLF.out (by omega)) (FracV.any (HHV.out.below h) HHF.out (by omega)) (by omega) hz3'.symm)
                clear hz3' vH
                obtain ⟨l0, l1, l2, lz0, lz1, lz2⟩ := bL
                obtain ⟨h0, h1, h2, hz0_, hz1_, hz2_⟩ := bH
                by_cases hq : lo ≤ hi'
                · have hz : z3 ≤ 0 := hc3.2 hq
                  have hm := HM1.out
                  rw [if_pos hq] at hm
                  have HM1 := Lib.hid hm
                  clear hm hq hc3 hc1 hc2
                  go_upto_region 14 with (go_at_call 9; (with_reducible refine (HC3.out _ (HXW.out.trans hX6)).mono ?_); rintro e w7 ⟨rfl, x7⟩)
                  have X7 : Ext W2 w7 := HX6.out.trans x7
                  obtain ⟨⟨l0, l1, l2, lz0, lz1, lz2⟩, h0, h1, h2, hz0_, hz1_, hz2_⟩ := HBB.out _ x7
                  go_wp2_with (at_builtin; refine wpList_append_mine _ (by rfl) (.tmp 46) (.tmp 50) 32 (by rfl) w.heap.size 40 i0 (.agg #[.bool false, .slice none 0 0, .slice none 0 0, .bool false, .slice none 0 0, .slice none 0 0]) 6 112 Tryz.underlying32 hi hz0 hz1 hz2 rfl (by omega) _ _ _ (by rfl) (HOX.out.ext (ext_alloc X7 _)).1.1 ⟨w7.heap.size, 0, none⟩ 1 1 [.bool lc, .slice LA lk ll, .slice LA' lk' ll', .bool hc, .slice HA_ hk hl, .slice HA' hk' hl'] (by rfl) rfl (cell_six w7 _ _ _ _ _ _ _) (by simp [Value.oneCell']) (by have := HSL.out; unfold maxLen; omega) (by have := HSL.out; omega) (by have := (HXW.out.trans X7).size; simp; omega) ?_; intro v8 w8 ho8 hg8 hw8)
                  have hO8 : OwnS w.heap.size w8 v8 (ts ++ [⟨lc, .slice LA lk ll, .slice LA' lk' ll'⟩, ⟨hc, .slice HA_ hk hl, .slice HA' hk' hl'⟩]) (meetL (a.take i) b ++ meetR x (b.take (j + 1))) := by
                    rw [HNX.out, HM1.out]
                    exact OwnS.push (p := (lo, hi')) (t := ⟨lc, .slice LA lk ll, .slice LA' lk' ll'⟩) (u := ⟨hc, .slice HA_ hk hl, .slice HA' hk' hl'⟩) (HOX.out.ext (ext_alloc X7 _)) (HLV.out.below (HXW.out.trans (ext_alloc X7 _))) (HHV.out.below (HXW.out.trans (ext_alloc X7 _))) (HV1.out _ _ _ _ HLV.out).1 (HV1.out _ _ _ _ HLV.out).2 (HV1.out _ _ _ _ HHV.out).1 (HV1.out _ _ _ _ HHV.out).2 ho8 hg8 hw8
                  have hx8 : Ext w w8 := OwnS.ext_of HOX.out HXW.out (ext_alloc X7 _) hg8
                  have hs8 : SixC w8 BX 0 (.bool m1) (.slice A1 k1 c1) (.slice A2 k2 c2) (.bool m2) (.slice A3 k3 c3) (.slice A4 k4 c4) := (HSX2.out.below (ext_alloc X7 _)).grown hg8 HBX.out.1
                  have hb8 : ∀ g, v8.ownBlock = some g → g ≠ BX := fun g hg => by
                    rcases hw8 with hw8 | hw8
                    · exact HBX.out.1 g (by rw [← hw8]; exact hg)
                    · have h1 := hw8 g hg
                      have h2 := HBX.out.2
                      have h3 := X7.size
                      simp at h1
                      omega
                  clear ho8 hg8 hw8
                  go_roundw
                  case rel => exact ⟨j + 1, _, by omega, by go_num, hO8, hx8, hs8, hb8⟩
                  case measure => simp [intOf]; omega
                · have hz : ¬ z3 ≤ 0 := fun h => hq (hc3.1 h)
                  have hm := HM1.out
                  rw [if_neg hq] at hm
                  have HM1 := Lib.hid hm
                  clear hm hq hc3 hc1 hc2
                  go_wp2_with (go_at_call 9; (with_reducible refine (HC3.out _ (HXW.out.trans hX6)).mono ?_); rintro e w7 ⟨rfl, x7⟩)
                  have X7 : Ext W2 w7 := HX6.out.trans x7
                  go_roundw
                  case rel => exact ⟨j + 1, _, by omega, by go_num, by rw [HNX.out, HM1.out, List.append_nil]; exact HOX.out.ext X7, HXW.out.trans X7, HSX2.out.below X7, HBX.out.1⟩
                  case measure => simp [intOf]; omega
        · obtain rfl : b.length = j := by omega
          have hnn : ¬ ((b.length : Int) < (b.length : Int)) := by omega
          go_wp2
          go_roundw
          case rel => exact ⟨i + 1, _, by omega, by go_num, by rw [← meet_all a b HXA.out]; exact hown, hx⟩
          case measure => simp [intOf]; omega
    · obtain rfl : a.length = i := by omega
      have hnn : ¬ ((a.length : Int) < (a.length : Int)) := by omega
      rw [List.take_length] at hown
      obtain ⟨A9, c9, rfl, _, _⟩ := hown.spans.form
      have h9 := hown.spans
      clear hown
      go_wp2
      go_ret
      exact ⟨A9, c9, rfl, h9, hx⟩

end Go.Proofs.YtbplkienkhinmaaGreatDoor
