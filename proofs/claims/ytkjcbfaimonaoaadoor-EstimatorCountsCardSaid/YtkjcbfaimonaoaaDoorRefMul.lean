/- ref01: Mul. -/
import Derived.Test.YtkjcbfaimonaoaaDoorRefArith
set_option linter.unusedVariables false
set_option linter.unusedSimpArgs false
set_option maxRecDepth 100000
namespace Go.Proofs.YtkjcbfaimonaoaaDoor
open Go.RowKit Num

/-- The rows of 'Mul' behind i rounds. -/
structure MulAt (xs ys : List Nat) (i : Nat) (os : List Nat) : Prop where
  len : os.length = xs.length + ys.length + 1
  digs : Digs os
  eq : val os = val (xs.take i) * val ys
  zero : ∀ p, i + ys.length ≤ p → os.getD p 0 = 0

theorem MulAt.start (xs ys : List Nat) : MulAt xs ys 0 (List.replicate (xs.length + ys.length + 1) 0) :=
  ⟨by simp, fun x hx => by simp at hx; omega, by simp [val, val_zeros], fun p _ => by simp [List.getD, List.getElem?_replicate]; split <;> rfl⟩

theorem MulAt.row {xs ys os : List Nat} {i x : Nat} (h : MulAt xs ys i os) : RowAt x ys os i 0 os 0 :=
  ⟨rfl, h.digs, by omega, by simp [val], fun _ _ => rfl⟩

theorem ext_getD {a b : List Nat} (hl : a.length = b.length) (h : ∀ p, a.getD p 0 = b.getD p 0) : a = b := by
  apply List.ext_getElem hl
  intro n h1 h2
  have := h n
  simpa [List.getD, h1, h2] using this

theorem MulAt.done {xs ys os qs : List Nat} {i j : Nat} (ht : MulAt xs ys i os) (h : RowAt (xs.getD i 0) ys os i j qs 0) (hj1 : ys.length ≤ j) (hj2 : j ≤ ys.length + 1) (hi : i < xs.length) : MulAt xs ys (i + 1) qs := by
  obtain ⟨h1, h2, h3, h4, h5⟩ := h
  obtain ⟨t1, t2, t3, t4⟩ := ht
  refine ⟨by rw [h1, t1], h2, ?_, ?_⟩
  · have e1 := val_take_drop qs (i + j) (by omega)
    have e2 := val_take_drop os (i + j) (by omega)
    have e3 : qs.drop (i + j) = os.drop (i + j) := by
      apply ext_getD (by simp [h1])
      intro p
      have := h5 (i + j + p) (by omega)
      simpa [List.getD, List.getElem?_drop] using this
    rw [e3] at e1
    rw [List.take_of_length_le hj1] at h4
    rw [getD_take_succ, Nat.add_mul, ← t3, Nat.mul_assoc]
    omega
  · intro p hp
    rw [h5 p (by omega)]
    exact t4 p (by omega)

theorem MulAt.fin {xs ys os : List Nat} (h : MulAt xs ys xs.length os) : val os = val xs * val ys := by
  rw [h.eq, List.take_length]

theorem RowAt.end_ {x : Nat} {xs ys os qs : List Nat} {i j c : Nat} (ht : MulAt xs ys i os) (h : RowAt x ys os i j qs c) (hy : Digs ys) (hj : ys.length < j) (hc : j = ys.length + 1 → c = 0) : True := trivial

set_option maxHeartbeats 4000000 in
theorem rmul_n {x y : Value} {a b : Nat} {w : World} (hx : NatV w x a) (hy : NatV w y b) (hl : (limbsOf a).length + (limbsOf b).length ≤ 1099511627775) :
    Calls Tryd.prog 76 #[.agg #[x], .agg #[y]] w (GivesN w (a * b)) := by
  obtain ⟨i0, hi, hz0, hz1, hz2⟩ := info_parts info_u32
  go_enter Tryd.func76, Tryd.ntmps76
  go_upto_region 1 with (fail)
  have hB0 : Boxes w (((w.alloc (.cells #[x] 30)).alloc (.cells #[y] 30)).alloc (.cells #[.slice none 0 0] 30)) [[x], [y], [.slice none 0 0]] := (((Boxes.nil_ w).alloc rfl [x] 30).alloc (by simp) [y] 30).alloc (by simp) [.slice none 0 0] 30
  generalize ((w.alloc (.cells #[x] 30)).alloc (.cells #[y] 30)).alloc (.cells #[.slice none 0 0] 30) = W0 at *
  have hx0 : NatV W0 x a := hx.below hB0.ext
  have HB0 := Lib.hid hB0
  obtain ⟨cx0, fx0⟩ : W0.cell? ⟨w.heap.size, 0, none⟩ = some x ∧ W0.frozen? ⟨w.heap.size, 0, none⟩ = false := hB0.cell 0 _ 0 _ rfl rfl
  clear hB0
  go_wp2_with fail
  refine (norm_n hx0).mono ?_
  intro e w1 hg
  obtain ⟨A1, c1, rfl, h1, x1, n1⟩ := hg.form
  clear hg
  have hB1 := HB0.out.below x1
  obtain ⟨cx1, fx1⟩ : w1.cell? ⟨w.heap.size, 0, none⟩ = some x ∧ w1.frozen? ⟨w.heap.size, 0, none⟩ = false := hB1.cell 0 _ 0 _ rfl rfl
  obtain ⟨cy1, fy1⟩ : w1.cell? ⟨w.heap.size + 1, 0, none⟩ = some y ∧ w1.frozen? ⟨w.heap.size + 1, 0, none⟩ = false := hB1.cell 1 _ 0 _ rfl rfl
  have HB1 := Lib.hid hB1
  clear hB1
  go_wp2_with fail
  have hB2 : Boxes w (w1.setCell ⟨w.heap.size, 0, none⟩ (.slice A1 (limbsOf a).length c1)) [[.slice A1 (limbsOf a).length c1], [y], [.slice none 0 0]] := HB1.out.set 0 0 _
  have hs0 : w.heap.size + 3 ≤ W0.heap.size := HB0.out.size
  have h1' := U32s.setNew (p := ⟨w.heap.size, 0, none⟩) h1 n1 (by show w.heap.size < _; omega) (.slice A1 (limbsOf a).length c1)
  have hs1 : w.heap.size + 3 ≤ (w1.setCell ⟨w.heap.size, 0, none⟩ (.slice A1 (limbsOf a).length c1)).heap.size := hB2.size
  clear cx0 fx0 cx1 fx1 cy1 fy1 HB1
  generalize w1.setCell ⟨w.heap.size, 0, none⟩ (.slice A1 (limbsOf a).length c1) = W1 at *
  obtain ⟨cy2, fy2⟩ : W1.cell? ⟨w.heap.size + 1, 0, none⟩ = some y ∧ W1.frozen? ⟨w.heap.size + 1, 0, none⟩ = false := hB2.cell 1 _ 0 _ rfl rfl
  have hy1 : NatV W1 y b := hy.below hB2.ext
  have HB2 := Lib.hid hB2
  clear hB2
  refine (norm_n hy1).mono ?_
  intro e w3 hg
  obtain ⟨A2, c2, rfl, h2, x3, n2⟩ := hg.form
  clear hg
  have hB3 := HB2.out.below x3
  obtain ⟨cy3, fy3⟩ : w3.cell? ⟨w.heap.size + 1, 0, none⟩ = some y ∧ w3.frozen? ⟨w.heap.size + 1, 0, none⟩ = false := hB3.cell 1 _ 0 _ rfl rfl
  have hB4 : Boxes w (w3.setCell ⟨w.heap.size + 1, 0, none⟩ (.slice A2 (limbsOf b).length c2)) [[.slice A1 (limbsOf a).length c1], [.slice A2 (limbsOf b).length c2], [.slice none 0 0]] := hB3.set 1 0 _
  have n1' : New (w.heap.size + 3) (.slice A1 (limbsOf a).length c1) := n1.mono hs0
  have n2' : New (w.heap.size + 3) (.slice A2 (limbsOf b).length c2) := n2.mono hs1
  have h1'' := U32s.setNew (p := ⟨w.heap.size + 1, 0, none⟩) (CanV.below h1' x3) n1' (by show w.heap.size + 1 < _; omega) (.slice A2 (limbsOf b).length c2)
  have h2'' := U32s.setNew (p := ⟨w.heap.size + 1, 0, none⟩) h2 n2' (by show w.heap.size + 1 < _; omega) (.slice A2 (limbsOf b).length c2)
  clear hB3 cy2 fy2 h1' h2 h1
  go_upto_region 3 with (fail)
  generalize w3.setCell ⟨w.heap.size + 1, 0, none⟩ (.slice A2 (limbsOf b).length c2) = W2 at *
  have h1' : CanV W2 (.slice A1 (limbsOf a).length c1) a := h1''
  have h2' : CanV W2 (.slice A2 (limbsOf b).length c2) b := h2''
  clear h1'' h2'' n1 n2 hs0 hs1 x1 x3 cy3 fy3 hx0 hy1 HB0 HB2 hx hy
  clear w3 W1 w1 W0
  have hE : Ext w W2 := hB4.ext
  have hs2 : w.heap.size + 1 + 1 + 1 ≤ W2.heap.size := hB4.size
  have HB := Lib.hid hB4
  clear hB4
  obtain ⟨A, cap, e, q2, q3, q4⟩ := h1'
  injection e with e1 e2 e3
  subst e1 e3
  obtain ⟨B, cap', e, k2, k3, k4⟩ := h2'
  injection e with e1 e2' e3
  subst e1 e3
  clear e2 e2'
  have da := limbsOf_digs a
  have db := limbsOf_digs b
  have va := val_limbsOf a
  have vb := val_limbsOf b
  generalize limbsOf a = xs at *
  generalize limbsOf b = ys at *
  have HVA := Lib.hid va
  have HVB := Lib.hid vb
  clear va vb
  obtain ⟨cx, fx⟩ : W2.cell? ⟨w.heap.size, 0, none⟩ = some (.slice A1 xs.length c1) ∧ W2.frozen? ⟨w.heap.size, 0, none⟩ = false := HB.out.cell 0 _ 0 _ rfl rfl
  obtain ⟨cy, fy⟩ : W2.cell? ⟨w.heap.size + 1, 0, none⟩ = some (.slice A2 ys.length c2) ∧ W2.frozen? ⟨w.heap.size + 1, 0, none⟩ = false := HB.out.cell 1 _ 0 _ rfl rfl
  clear fx fy
  go_wp2_with (first | (at_make; refine wpList_make_full _ rfl _ _ 28 rfl W2.heap.size 70 i0 (.int .u32 0) 1 Tryd.underlying28 hi hz0 hz1 _ _ _ _ (xs.length + ys.length + 1) rfl rfl (by omega) (by omega) ?b1 ?b2 ?b3 ?_) | fail)
  case b1 => rw [hz2]; omega
  case b2 => unfold maxLen; omega
  case b3 => exact Nat.le_refl _
  intro w4 hown hgrow
  rw [u32s_replicate] at hown
  have hb4 : Ext W2 w4 := (Below.refl _ _).grown hgrow (Nat.le_refl _) (by simp)
  clear hgrow cx cy
  go_wp2
  go_loopw [6] (fun iv wr => ∃ (i : Nat) (os : List Nat), i ≤ xs.length ∧ iv = .int .i64 i ∧
      wr.ownsRow W2.heap.size 70 1 (.slice (some ⟨W2.heap.size, 0, none⟩) (xs.length + ys.length + 1) (xs.length + ys.length + 1)) (xs.length + ys.length + 1) (u32s os) ∧ Ext W2 wr ∧ MulAt xs ys i os)
    (fun iv _ => xs.length - (intOf iv).toNat)
  case atStart => exact ⟨0, _, Nat.zero_le _, rfl, hown, hb4, MulAt.start xs ys⟩
  case round =>
    obtain ⟨i, os, hk, rfl, hown1, hbr, hat⟩ := hrel
    obtain ⟨wo, hwo⟩ : ∃ wo : World, wo = wr := ⟨_, rfl⟩
    subst hwo
    have hBo := HB.out.below hbr
    have cxr : wo.cell? ⟨w.heap.size, 0, none⟩ = some (.slice A1 xs.length c1) := (hBo.cell 0 _ 0 _ rfl rfl).1
    clear hBo
    have hol := Lib.hid hat.len
    by_cases hlt : i < xs.length
    · have hxk := da.getD i
      have hXC : ∀ W', Ext W2 W' → ∃ ad : Addr, A1 = some ad ∧ W'.cell? (ad.add i) = some (.int .u32 (xs.getD i 0 : Nat)) := by
        intro W' h
        obtain ⟨ad, u, e, _, hu, hc⟩ := (q4.below h).at_ (k := i) hlt
        rw [u32s_get _ _ hlt] at hu
        cases hu
        exact ⟨ad, e, hc⟩
      obtain ⟨ax, rfl, _⟩ := hXC wo hbr
      have HXC := Lib.hid hXC
      clear hXC
      go_wp2
      go_loopw [7, 8] (fun cv jv wr => ∃ (j c : Nat) (qs : List Nat), j ≤ ys.length + 1 ∧ (j = ys.length + 1 → c = 0) ∧ jv = .int .i64 j ∧ cv = .int .u64 c ∧
          wr.ownsRow W2.heap.size 70 1 (.slice (some ⟨W2.heap.size, 0, none⟩) (xs.length + ys.length + 1) (xs.length + ys.length + 1)) (xs.length + ys.length + 1) (u32s qs) ∧ Ext W2 wr ∧ RowAt (xs.getD i 0) ys os i j qs c)
        (fun _ jv _ => ys.length + 1 - (intOf jv).toNat)
      case atStart => exact ⟨0, 0, os, by omega, fun _ => rfl, rfl, rfl, hown1, hbr, hat.row⟩
      case round =>
        obtain ⟨j, c, qs, hj, hjc, rfl, rfl, hown2, hb2, hrow⟩ := hrel
        have hBr := HB.out.below hb2
        have cxq : wr.cell? ⟨w.heap.size, 0, none⟩ = some (.slice (some ax) xs.length c1) := (hBr.cell 0 _ 0 _ rfl rfl).1
        have cyq : wr.cell? ⟨w.heap.size + 1, 0, none⟩ = some (.slice A2 ys.length c2) := (hBr.cell 1 _ 0 _ rfl rfl).1
        obtain ⟨ax', e, hcx⟩ := HXC.out wr hb2
        injection e with e
        subst e
        clear hBr
        have hsm := hrow.small
        have hql : qs.length = xs.length + ys.length + 1 := by rw [hrow.len, hol.out]
        by_cases hgo : j < ys.length ∨ 0 < c
        · have hij : i + j < xs.length + ys.length + 1 := by
            rcases Nat.lt_or_ge j (ys.length + 1) with h | h
            · omega
            · have := hjc (by omega); omega
          have hqj := hrow.digs.getD (i + j)
          have hyj := db.getD j
          have hcq : wr.cell? ⟨W2.heap.size, i + j, none⟩ = some (.int .u32 (qs.getD (i + j) 0 : Nat)) := by rw [hown2.cellAt (i + j) (by omega), u32s_get qs _ (by omega)]
          have hfq : wr.frozen? ⟨W2.heap.size, i + j, none⟩ = false := hown2.frozenAt _
          have hst := Lib.hid (hrow.step db hxk (by rw [hol.out]; exact hij))
          have hend : j = ys.length → (c + (xs.getD i 0 * ys.getD j 0 + qs.getD (i + j) 0)) / 1000000000 = 0 := by
            intro h
            have e1 : ys.getD j 0 = 0 := by simp [List.getD, List.getElem?_eq_none (show ys.length ≤ j by omega)]
            have e2 : qs.getD (i + j) 0 = 0 := by rw [hrow.rest (i + j) (Nat.le_refl _)]; exact hat.zero _ (by omega)
            rw [e1, e2]
            omega
          have HEND := Lib.hid hend
          have hjl : j ≤ ys.length := by
            rcases Nat.lt_or_ge j (ys.length + 1) with h | h
            · omega
            · have := hjc (by omega); omega
          clear hrow hend
          have HQ := Lib.hid hql
          have HJC := Lib.hid hjc
          clear hql hjc
          by_cases hjy : j < ys.length
          · obtain ⟨bd, u, rfl, hb3, hu, hcl2⟩ := (k4.below hb2).at_ (k := j) hjy
            rw [u32s_get _ _ hjy] at hu
            cases hu
            generalize ys.getD j 0 = y at *
            generalize qs.getD (i + j) 0 = q at *
            generalize xs.getD i 0 = x at *
            have hxy : x * y ≤ 999999999 * 999999999 := Nat.mul_le_mul (by omega) (by omega)
            have hxy1 : (x : Int) * (y : Int) ≤ 999999998000000001 := by have := Int.ofNat_le.2 hxy; simpa using this
            have hxy0 : 0 ≤ (x : Int) * (y : Int) := Int.mul_nonneg (by omega) (by omega)
            clear hxy
            go_wp2
            go_quiet (fail)
            go_wp2
            go_roundw
            case rel =>
              have e : (q : Int) + c + (x : Int) * (y : Int) = ((c + (x * y + q) : Nat) : Int) := by simp; omega
              have hs := (hown2.drew.stored (i + j) (.int .u32 (((c + (x * y + q)) % 1000000000 : Nat) : Int))).1
              rw [u32s_set] at hs
              refine ⟨j + 1, _, _, by omega, fun h => HEND.out (by omega), by go_num, by rw [e]; go_num, ?_, (hb2.drewN _).setCell (Nat.le_refl _) _, hst.out⟩
              rw [e]
              exact hs
            case measure => simp [intOf]; try omega
          · have hy0 : ys.getD j 0 = 0 := by simp [List.getD, List.getElem?_eq_none (show ys.length ≤ j by omega)]
            rw [hy0] at hst HEND
            have hc0 : 0 < c := by omega
            clear hy0 hyj hgo
            generalize qs.getD (i + j) 0 = q at *
            generalize xs.getD i 0 = x at *
            go_wp2
            go_roundw
            case rel =>
              have e : (q : Int) + c = ((c + (x * 0 + q) : Nat) : Int) := by simp; omega
              have hs := (hown2.stored (i + j) (.int .u32 (((c + (x * 0 + q)) % 1000000000 : Nat) : Int))).1
              rw [u32s_set] at hs
              refine ⟨j + 1, _, _, by omega, fun h => HEND.out (by omega), by go_num, by rw [e]; go_num, ?_, hb2.setCell (Nat.le_refl _) _, hst.out⟩
              rw [e]
              exact hs
            case measure => simp [intOf]; try omega
        · obtain rfl : c = 0 := by omega
          have hdn := Lib.hid (MulAt.done hat hrow (by omega) hj hlt)
          clear hrow hql hjc
          have hjy : ¬ j < ys.length := by omega
          clear hgo
          go_wp2
          go_roundw
          case rel => exact ⟨i + 1, _, by omega, by go_num, hown2, hb2, hdn.out⟩
          case measure => simp [intOf]; try omega
    · obtain rfl : i = xs.length := by omega
      have hdone := hat.fin
      rw [HVA.out, HVB.out] at hdone
      have HN : NatV wo (.slice (some ⟨W2.heap.size, 0, none⟩) (xs.length + ys.length + 1) (xs.length + ys.length + 1)) (a * b) := ⟨os, U32s.of_row hown1, fun z hz => by have := hat.digs z hz; omega, by rw [hat.len]; omega, hdone⟩
      have hEr := hE.trans hbr
      clear hat hown1 hdone
      go_wp2_with fail
      refine (norm_n HN).mono ?_
      rintro e w5 ⟨A5, k5, c5, rfl, h5, x5, n5⟩
      obtain ⟨cz, fz⟩ : w5.cell? ⟨w.heap.size + 1 + 1, 0, none⟩ = some (.slice none 0 0) ∧ w5.frozen? ⟨w.heap.size + 1 + 1, 0, none⟩ = false := (HB.out.below (hbr.trans x5)).cell 2 _ 0 _ rfl rfl
      have hWs := hbr.size
      go_wp2
      refine bodyPost_ret (v := .agg #[.slice A5 k5 c5]) (by simp [results, Tryd.results76, go_sem, World.cell?_setCell_same _ _ _ cz]) rfl ?_
      exact ⟨_, _, _, rfl, U32s.setNew h5 n5 (by show w.heap.size + 1 + 1 < _; omega) _, (hEr.trans x5).setCell (by show w.heap.size ≤ w.heap.size + 1 + 1; omega) _, n5.mono (by omega)⟩

end Go.Proofs.YtkjcbfaimonaoaaDoor
