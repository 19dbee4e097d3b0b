/- ref02: Add. ref02: Neg, Sub. -/
import Derived.Test.YtmfigiifflljpaaRFrac
import Derived.Deep.DeepCutAuto
set_option linter.unusedVariables false
set_option linter.unusedSimpArgs false
set_option maxRecDepth 100000
namespace Go.Proofs.Ytmfigiifflljpaa
open Go.RowKit Num


set_option maxHeartbeats 4000000 in
theorem radd_f {b b' : Bool} {s t s' t' : Value} {p q : Rat} {L M : Nat} {w : World} (hx : AnyF w b s t p L) (hy : AnyF w b' s' t' q M) (fp : FB p L) (fq : FB q M) (hL : L + M ≤ 549755813000) :
    Calls Try.prog 34 #[.agg #[.bool b, s, t], .agg #[.bool b', s', t']] w (GivesF w (p + q)) := by
  have HLI := Lib.hid hL
  have HFP := Lib.hid fp
  have HFQ := Lib.hid fq
  clear hL fp fq
  go_enter Try.func34, Try.ntmps34
  go_upto_region 1 with (fail)
  have hX0 := FBox.new w (.bool b) s t 34
  have hY0 := FBox.new (w.alloc (.cells #[.bool b, s, t] 34)) (.bool b') s' t' 34
  have hF0 := FBox.new ((w.alloc (.cells #[.bool b, s, t] 34)).alloc (.cells #[.bool b', s', t'] 34)) (.bool false) (.slice none 0 0) (.slice none 0 0) 34
  have hX1 := (hX0.below (ext_alloc (Below.refl _ _) (.cells #[.bool b', s', t'] 34))).below (ext_alloc (Below.refl _ _) (.cells #[.bool false, .slice none 0 0, .slice none 0 0] 34))
  have hY1 := hY0.below (ext_alloc (Below.refl _ _) (.cells #[.bool false, .slice none 0 0, .slice none 0 0] 34))
  have x0 : Ext w (((w.alloc (.cells #[.bool b, s, t] 34)).alloc (.cells #[.bool b', s', t'] 34)).alloc (.cells #[.bool false, .slice none 0 0, .slice none 0 0] 34)) := ext_alloc (ext_alloc (ext_alloc (Below.refl _ _) _) _) _
  have hs0 : w.heap.size + 1 + 1 + 1 ≤ (((w.alloc (.cells #[.bool b, s, t] 34)).alloc (.cells #[.bool b', s', t'] 34)).alloc (.cells #[.bool false, .slice none 0 0, .slice none 0 0] 34)).heap.size := by simp
  rw [show (w.alloc (.cells #[.bool b, s, t] 34)).heap.size = w.heap.size + 1 from by simp] at hY1
  rw [show ((w.alloc (.cells #[.bool b, s, t] 34)).alloc (.cells #[.bool b', s', t'] 34)).heap.size = w.heap.size + 1 + 1 from by simp] at hF0
  clear hX0 hY0
  generalize ((w.alloc (.cells #[.bool b, s, t] 34)).alloc (.cells #[.bool b', s', t'] 34)).alloc (.cells #[.bool false, .slice none 0 0, .slice none 0 0] 34) = W0 at *
  have hs1 : w.heap.size + 1 + 1 ≤ W0.heap.size := by omega
  have HX := Lib.hid (fun (w' : World) (h : Ext W0 w') => hX1.below h)
  have HY := Lib.hid (fun (w' : World) (h : Ext W0 w') => hY1.below h)
  have HF := Lib.hid (fun (w' : World) (h : Ext W0 w') => hF0.below h)
  have HE := Lib.hid x0
  have f0 : Ext W0 W0 := Below.refl _ _
  have HAX := Lib.hid (hx.below x0)
  have HAY := Lib.hid (hy.below x0)
  obtain ⟨cx0, cx1, cx2, gx0, gx1, gx2⟩ := hX1
  obtain ⟨cy0, cy1, cy2, gy0, gy1, gy2⟩ := hY1
  clear x0 hF0 hx hy
  go_cut [] (fun wx => ∃ (c : Bool) (A : Option Addr) (k l : Nat) (A' : Option Addr) (k' l' : Nat) (e : Bool) (B : Option Addr) (m o : Nat) (B' : Option Addr) (m' o' : Nat),
      FBox wx w.heap.size (.bool c) (.slice A k l) (.slice A' k' l') ∧ FBox wx (w.heap.size + 1) (.bool e) (.slice B m o) (.slice B' m' o') ∧ FBox wx (w.heap.size + 1 + 1) (.bool false) (.slice none 0 0) (.slice none 0 0) ∧
      FracV wx c (.slice A k l) (.slice A' k' l') p ∧ FracV wx e (.slice B m o) (.slice B' m' o') q ∧ Ext w wx)
  case first =>
    go_region_law (first
      | (go_simp; go_at_call 29; (with_reducible refine (rnorm_f (AnyF.below HAX.out (by first | ((repeat first | assumption | exact Below.refl _ _ | refine ext_alloc ?_ _ | refine ext_drew ?_ | refine ext_set ?_ (by first | omega | (simp; done) | (simp; omega)) _); done) | fail)) (by have := HLI.out; omega)).mono ?_); rintro _ s1 ⟨c1, A1, k1, l1, B1, m1, o1, rfl, h1, z1, n1, n1'⟩; have n1 := n1.mono (B' := w.heap.size + 1 + 1) (by first | exact hs1 | (have := f2.size; omega)); have n1' := n1'.mono (B' := w.heap.size + 1 + 1) (by first | exact hs1 | (have := f2.size; omega)); have f1 : Ext W0 s1 := Ext.trans (by first | ((repeat first | assumption | exact Below.refl _ _ | refine ext_alloc ?_ _ | refine ext_drew ?_ | refine ext_set ?_ (by first | omega | (simp; done) | (simp; omega)) _); done) | fail) z1; obtain ⟨cx0, cx1, cx2, gx0, gx1, gx2⟩ := HX.out _ f1; obtain ⟨cy0, cy1, cy2, gy0, gy1, gy2⟩ := HY.out _ f1)
      | (go_simp; go_at_call 29; (with_reducible refine (rnorm_f (AnyF.below HAY.out (by first | ((repeat first | assumption | exact Below.refl _ _ | refine ext_alloc ?_ _ | refine ext_drew ?_ | refine ext_set ?_ (by first | omega | (simp; done) | (simp; omega)) _); done) | fail)) (by have := HLI.out; omega)).mono ?_); rintro _ s2 ⟨c2, A2, k2, l2, B2, m2, o2, rfl, h2, z2, n2, n2'⟩; have n2 := n2.mono (B' := w.heap.size + 1 + 1) (by first | exact hs1 | (have := f1.size; omega)); have n2' := n2'.mono (B' := w.heap.size + 1 + 1) (by first | exact hs1 | (have := f1.size; omega)); have f2 : Ext W0 s2 := Ext.trans (by first | ((repeat first | assumption | exact Below.refl _ _ | refine ext_alloc ?_ _ | refine ext_drew ?_ | refine ext_set ?_ (by first | omega | (simp; done) | (simp; omega)) _); done) | fail) z2; obtain ⟨cx0, cx1, cx2, gx0, gx1, gx2⟩ := HX.out _ f2; obtain ⟨cy0, cy1, cy2, gy0, gy1, gy2⟩ := HY.out _ f2))
    all_goals go_wp2
    all_goals go_meet
    all_goals first
      | (exact ⟨c1, A1, k1, l1, B1, m1, o1, c2, A2, k2, l2, B2, m2, o2, ((HX.out _ f2).put _ _ _).away (by omega) _ _ _, ((HY.out _ f2).away (by omega) _ _ _).put _ _ _, ((HF.out _ f2).away (by omega) _ _ _).away (by omega) _ _ _, (FracV.put (FracV.below h1 (by first | exact z2 | exact Ext.trans (ext_drew (Below.refl _ _)) z2)) n1 n1' (by omega) _ _ _).put n1 n1' (by omega) _ _ _, (FracV.put h2 n2 n2' (by omega) _ _ _).put n2 n2' (by omega) _ _ _, ext_put (ext_put (HE.out.trans f2) (by omega) _ _ _) (by omega) _ _ _⟩)
      | (exact ⟨c1, A1, k1, l1, B1, m1, o1, c2, A2, k2, l2, B2, m2, o2, ((HX.out _ f1).put _ _ _).away (by omega) _ _ _, ((HY.out _ f1).away (by omega) _ _ _).put _ _ _, ((HF.out _ f1).away (by omega) _ _ _).away (by omega) _ _ _, (FracV.put h1 n1 n1' (by omega) _ _ _).put n1 n1' (by omega) _ _ _, (FracV.put (FracV.below h2 (by first | exact z1 | exact Ext.trans (ext_drew (Below.refl _ _)) z1)) n2 n2' (by omega) _ _ _).put n2 n2' (by omega) _ _ _, ext_put (ext_put (HE.out.trans f1) (by omega) _ _ _) (by omega) _ _ _⟩)
  case rest =>
    clear cx0 cx1 cx2 gx0 gx1 gx2 cy0 cy1 cy2 gy0 gy1 gy2
    obtain ⟨c, A, k, l, A', k', l', e, B, m, o, B', m', o', hA, hB, hR, vA, vB, hE1⟩ := hcut
    obtain ⟨W1, hW1⟩ : ∃ W1 : World, W1 = wc := ⟨_, rfl⟩
    subst hW1
    have HA := Lib.hid (fun (w' : World) (h : Ext W1 w') => hA.below h)
    have HB := Lib.hid (fun (w' : World) (h : Ext W1 w') => hB.below h)
    have HR := Lib.hid (fun (w' : World) (h : Ext W1 w') => hR.below h)
    have HE1 := Lib.hid hE1
    have HN := Lib.hid (CanV.nat vA.2.1 (Nat.le_trans HFP.out.1 (by have := HLI.out; omega)))
    have HD := Lib.hid (CanV.nat vA.2.2 (Nat.le_trans HFP.out.2 (by have := HLI.out; omega)))
    have HM := Lib.hid (CanV.nat vB.2.1 (Nat.le_trans HFQ.out.1 (by have := HLI.out; omega)))
    have HE2 := Lib.hid (CanV.nat vB.2.2 (Nat.le_trans HFQ.out.2 (by have := HLI.out; omega)))
    have HZ1 := Lib.hid HFP.out.1
    have HZ2 := Lib.hid HFP.out.2
    have HZ3 := Lib.hid HFQ.out.1
    have HZ4 := Lib.hid HFQ.out.2
    have HSG := Lib.hid (⟨vA.1, vB.1⟩ : c = decide (p < 0) ∧ e = decide (q < 0))
    have hs3 : w.heap.size + 1 + 1 < W1.heap.size := World.block_lt_of_cell? _ _ hR.1
    obtain ⟨a0, a1, a2, _, _, _⟩ := hA
    obtain ⟨b0, b1, b2, _, _, _⟩ := hB
    clear hR vA vB hE1
    have HP1 := Lib.hid (show (limbsOf (p.num.natAbs * q.den)).length ≤ L + M from Nat.le_trans (limbsOf_length_mul _ _) (Nat.add_le_add HFP.out.1 HFQ.out.2))
    have HP2 := Lib.hid (show (limbsOf (q.num.natAbs * p.den)).length ≤ L + M from by have := Nat.le_trans (limbsOf_length_mul q.num.natAbs p.den) (Nat.add_le_add HFQ.out.1 HFP.out.2); omega)
    have HP3 := Lib.hid (show (limbsOf (p.den * q.den)).length ≤ L + M from Nat.le_trans (limbsOf_length_mul _ _) (Nat.add_le_add HFP.out.2 HFQ.out.2))
    have HSUM := Lib.hid (show ∀ z, c = e → z = p.num.natAbs * q.den + q.num.natAbs * p.den → p + q = frac c z (p.den * q.den) from fun z h hz => by
      rw [hz, ← frac_add p.den_nz q.den_nz, HSG.out.1, frac_self]
      conv => rhs; rw [← HSG.out.1, h, HSG.out.2, frac_self])
    have HGE := Lib.hid (show c ≠ e → q.num.natAbs * p.den ≤ p.num.natAbs * q.den → p + q = frac c (p.num.natAbs * q.den - q.num.natAbs * p.den) (p.den * q.den) from fun h hz => by
      rw [← frac_sub_ge p.den_nz q.den_nz hz, show (!c) = e from by cases c <;> cases e <;> simp_all, HSG.out.1, HSG.out.2, frac_self, frac_self])
    have HLT := Lib.hid (show c ≠ e → p.num.natAbs * q.den ≤ q.num.natAbs * p.den → p + q = frac e (q.num.natAbs * p.den - p.num.natAbs * q.den) (p.den * q.den) from fun h hz => by
      have := frac_sub_lt (b := c) p.den_nz q.den_nz hz
      rw [show (!c) = e from by cases c <;> cases e <;> simp_all] at this
      rw [← this, HSG.out.1, HSG.out.2, frac_self, frac_self])
    have g0 : Ext W1 W1 := Below.refl _ _
    go_wp2_with fail
    refine (rmul_n HN.out HE2.out (by have := HZ1.out; have := HZ2.out; have := HZ3.out; have := HZ4.out; have := HLI.out; omega)).mono ?_
    rintro _ u3 ⟨A3, k3, l3, rfl, h3, x3, _⟩
    have y3 := ext_alloc x3 (.cells #[.slice A3 k3 l3] 32)
    have p3 := CanV.alloc h3 (.cells #[.slice A3 k3 l3] 32)
    have d3 : (u3.alloc (.cells #[.slice A3 k3 l3] 32)).cell? ⟨u3.heap.size, 0, none⟩ = some (.slice A3 k3 l3) := by simp [go_sem]
    have f3 := Ext.trans g0 y3
    obtain ⟨a0, a1, a2, _, _, _⟩ := HA.out _ f3
    obtain ⟨b0, b1, b2, _, _, _⟩ := HB.out _ f3
    clear h3 x3 y3
    go_wp2_with fail
    generalize u3.alloc (.cells #[.slice A3 k3 l3] 32) = v3 at *
    refine (rmul_n (NatV.below HM.out f3) (NatV.below HD.out f3) (by have := HZ1.out; have := HZ2.out; have := HZ3.out; have := HZ4.out; have := HLI.out; omega)).mono ?_
    rintro _ u4 ⟨A4, k4, l4, rfl, h4, x4, _⟩
    have y4 := ext_alloc x4 (.cells #[.slice A4 k4 l4] 32)
    have p4 := CanV.alloc h4 (.cells #[.slice A4 k4 l4] 32)
    have d4 : (u4.alloc (.cells #[.slice A4 k4 l4] 32)).cell? ⟨u4.heap.size, 0, none⟩ = some (.slice A4 k4 l4) := by simp [go_sem]
    have p3 := CanV.below p3 y4
    have d3 := (y4.cell (p := ⟨u3.heap.size, 0, none⟩) (World.block_lt_of_cell? _ _ d3)).trans d3
    have f4 := Ext.trans f3 y4
    obtain ⟨a0, a1, a2, _, _, _⟩ := HA.out _ f4
    obtain ⟨b0, b1, b2, _, _, _⟩ := HB.out _ f4
    clear h4 x4 y4
    go_wp2_with fail
    generalize u4.alloc (.cells #[.slice A4 k4 l4] 32) = v4 at *
    refine (rmul_n (NatV.below HD.out f4) (NatV.below HE2.out f4) (by have := HZ1.out; have := HZ2.out; have := HZ3.out; have := HZ4.out; have := HLI.out; omega)).mono ?_
    rintro _ u5 ⟨A5, k5, l5, rfl, h5, x5, _⟩
    have y5 := ext_alloc x5 (.cells #[.slice A5 k5 l5] 32)
    have p5 := CanV.alloc h5 (.cells #[.slice A5 k5 l5] 32)
    have d5 : (u5.alloc (.cells #[.slice A5 k5 l5] 32)).cell? ⟨u5.heap.size, 0, none⟩ = some (.slice A5 k5 l5) := by simp [go_sem]
    have p3 := CanV.below p3 y5
    have d3 := (y5.cell (p := ⟨u3.heap.size, 0, none⟩) (World.block_lt_of_cell? _ _ d3)).trans d3
    have p4 := CanV.below p4 y5
    have d4 := (y5.cell (p := ⟨u4.heap.size, 0, none⟩) (World.block_lt_of_cell? _ _ d4)).trans d4
    have f5 := Ext.trans f4 y5
    obtain ⟨a0, a1, a2, _, _, _⟩ := HA.out _ f5
    obtain ⟨b0, b1, b2, _, _, _⟩ := HB.out _ f5
    clear h5 x5 y5
    go_upto_region 5 with (fail)
    generalize u5.alloc (.cells #[.slice A5 k5 l5] 32) = v5 at *
    generalize p.num.natAbs * q.den = X at *
    generalize q.num.natAbs * p.den = Y at *
    generalize p.den * q.den = D at *
    have HS := Lib.hid (fun (w' : World) (h : Ext v5 w') => (⟨(h.cell (p := ⟨u3.heap.size, 0, none⟩) (World.block_lt_of_cell? _ _ d3)).trans d3, (h.cell (p := ⟨u4.heap.size, 0, none⟩) (World.block_lt_of_cell? _ _ d4)).trans d4, (h.cell (p := ⟨u5.heap.size, 0, none⟩) (World.block_lt_of_cell? _ _ d5)).trans d5⟩ : w'.cell? ⟨u3.heap.size, 0, none⟩ = some (.slice A3 k3 l3) ∧ w'.cell? ⟨u4.heap.size, 0, none⟩ = some (.slice A4 k4 l4) ∧ w'.cell? ⟨u5.heap.size, 0, none⟩ = some (.slice A5 k5 l5)))
    have HX3 := Lib.hid (CanV.nat p3 (by have := HP1.out; have := HLI.out; unfold Fit; omega))
    have HX4 := Lib.hid (CanV.nat p4 (by have := HP2.out; have := HLI.out; unfold Fit; omega))
    have HX5 := Lib.hid (CanV.nat p5 (by have := HP3.out; have := HLI.out; unfold Fit; omega))
    have hv5 : w.heap.size + 1 + 1 + 1 ≤ v5.heap.size := by have := f5.size; omega
    have HF5 := Lib.hid (Ext.trans HE1.out f5)
    have f5' := f5
    clear p3 p4 p5 f3 f4
    have f5 : Ext v5 v5 := Below.refl _ _
    by_cases hce : c = e
    · have HV := Lib.hid (HSUM.out (X + Y) hce rfl)
      subst hce
      have HXY := Lib.hid (len_add (a := X) (b := Y) (k := L + M) HP1.out HP2.out)
      clear HSUM HGE HLT
      go_upto_region 6 with (fail)
      go_region_law (first
        | (go_simp; go_at_call 60; (with_reducible refine (radd_n (NatV.below HX3.out (by first | ((repeat first | assumption | exact Below.refl _ _ | refine ext_alloc ?_ _ | refine ext_drew ?_ | refine ext_set ?_ (by first | omega | (simp; done) | (simp; omega)) _); done) | fail)) (NatV.below HX4.out (by first | ((repeat first | assumption | exact Below.refl _ _ | refine ext_alloc ?_ _ | refine ext_drew ?_ | refine ext_set ?_ (by first | omega | (simp; done) | (simp; omega)) _); done) | fail)) (by have := HP1.out; have := HLI.out; omega) (by have := HP2.out; have := HLI.out; omega)).mono ?_); rintro _ s6 ⟨A6, k6, l6, rfl, h6, x6, _⟩; have e6 : Ext v5 s6 := Ext.trans (by first | ((repeat first | assumption | exact Below.refl _ _ | refine ext_alloc ?_ _ | refine ext_drew ?_ | refine ext_set ?_ (by first | omega | (simp; done) | (simp; omega)) _); done) | fail) x6; obtain ⟨d3, d4, d5⟩ := HS.out _ e6; obtain ⟨a0, a1, a2, _, _, _⟩ := HA.out _ (Ext.trans f5' e6); obtain ⟨b0, b1, b2, _, _, _⟩ := HB.out _ (Ext.trans f5' e6); obtain ⟨r0, r1, r2, _, _, _⟩ := HR.out _ (Ext.trans f5' e6))
        | (go_simp; go_at_call 56; (with_reducible refine (rnew_n (CanV.nat h6 (by have := HXY.out; have := HLI.out; unfold Fit; omega)) (NatV.below HX5.out (by first | ((repeat first | assumption | exact Below.refl _ _ | refine ext_alloc ?_ _ | refine ext_drew ?_ | refine ext_set ?_ (by first | omega | (simp; done) | (simp; omega)) _); done) | fail)) (by have := HXY.out; have := HLI.out; omega) (by have := HP3.out; have := HLI.out; omega)).mono ?_); rintro _ s7 ⟨b7, A7, k7, l7, B7, m7, o7, rfl, h7, x7, n7, n7'⟩; have e7 : Ext v5 s7 := Ext.trans (by first | ((repeat first | assumption | exact Below.refl _ _ | refine ext_alloc ?_ _ | refine ext_drew ?_ | refine ext_set ?_ (by first | omega | (simp; done) | (simp; omega)) _); done) | fail) x7; obtain ⟨d3, d4, d5⟩ := HS.out _ e7; obtain ⟨a0, a1, a2, _, _, _⟩ := HA.out _ (Ext.trans f5' e7); obtain ⟨b0, b1, b2, _, _, _⟩ := HB.out _ (Ext.trans f5' e7); obtain ⟨r0, r1, r2, _, _, _⟩ := HR.out _ (Ext.trans f5' e7)))
      all_goals go_wp2
      all_goals
        obtain ⟨q0, q1, q2⟩ := set3 r0 r1 r2 (.bool b7) (.slice A7 k7 l7) (.slice B7 m7 o7)
        refine bodyPost_ret (v := .agg #[.bool b7, .slice A7 k7 l7, .slice B7 m7 o7]) (by simp [results, Try.results34, go_sem, q0, q1, q2]) rfl ?_
        exact GivesF.box (B := w.heap.size + 1 + 1) (HF5.out.trans e7) (by rw [HV.out]; exact h7) (n7.mono (by have := e6.size; omega)) (n7'.mono (by have := e6.size; omega)) (by omega)
    · have hb : (c == e) = false := by simp [hce]
      by_cases hge : Y ≤ X
      · have HV := Lib.hid (HGE.out hce hge)
        have HXY := Lib.hid (Nat.le_trans (limbsOf_length_mono (Nat.sub_le X Y)) HP1.out)
        have hcm : 0 ≤ cmpN X Y := by have := @cmpN_neg X Y; omega
        clear HSUM HGE HLT
        go_wp2_with fail
        refine (rcmp_n HX3.out HX4.out).mono ?_
        rintro _ s6 ⟨rfl, x6⟩
        have e6 := f5.trans x6
        obtain ⟨d3, d4, d5⟩ := HS.out _ e6; obtain ⟨a0, a1, a2, _, _, _⟩ := HA.out _ (Ext.trans f5' e6); obtain ⟨b0, b1, b2, _, _, _⟩ := HB.out _ (Ext.trans f5' e6); obtain ⟨r0, r1, r2, _, _, _⟩ := HR.out _ (Ext.trans f5' e6)
        generalize cmpN X Y = cm at *
        go_wp2_with fail
        refine (rsub_ge (NatV.below HX3.out e6) (NatV.below HX4.out e6) hge (by have := HP1.out; have := HLI.out; omega)).mono ?_
        rintro _ s8 ⟨A8, k8, l8, rfl, h8, x8, _⟩
        have y8 := ext_alloc x8 (.cells #[.slice A8 k8 l8] 32)
        have p8 := CanV.alloc h8 (.cells #[.slice A8 k8 l8] 32)
        have d8 : (s8.alloc (.cells #[.slice A8 k8 l8] 32)).cell? ⟨s8.heap.size, 0, none⟩ = some (.slice A8 k8 l8) := by simp [go_sem]
        have e8 := e6.trans y8
        obtain ⟨d3, d4, d5⟩ := HS.out _ e8; obtain ⟨a0, a1, a2, _, _, _⟩ := HA.out _ (Ext.trans f5' e8); obtain ⟨b0, b1, b2, _, _, _⟩ := HB.out _ (Ext.trans f5' e8); obtain ⟨r0, r1, r2, _, _, _⟩ := HR.out _ (Ext.trans f5' e8)
        clear h8 x8 y8
        go_wp2_with fail
        generalize s8.alloc (.cells #[.slice A8 k8 l8] 32) = v8 at *
        refine (rnew_n (CanV.nat p8 (by have := HXY.out; have := HLI.out; unfold Fit; omega)) (NatV.below HX5.out e8) (by have := HXY.out; have := HLI.out; omega) (by have := HP3.out; have := HLI.out; omega)).mono ?_
        rintro _ s7 ⟨b7, A7, k7, l7, B7, m7, o7, rfl, h7, x7, n7, n7'⟩
        have e7 := e8.trans x7
        obtain ⟨d3, d4, d5⟩ := HS.out _ e7; obtain ⟨a0, a1, a2, _, _, _⟩ := HA.out _ (Ext.trans f5' e7); obtain ⟨b0, b1, b2, _, _, _⟩ := HB.out _ (Ext.trans f5' e7); obtain ⟨r0, r1, r2, _, _, _⟩ := HR.out _ (Ext.trans f5' e7)
        go_wp2
        obtain ⟨q0, q1, q2⟩ := set3 r0 r1 r2 (.bool b7) (.slice A7 k7 l7) (.slice B7 m7 o7)
        refine bodyPost_ret (v := .agg #[.bool b7, .slice A7 k7 l7, .slice B7 m7 o7]) (by simp [results, Try.results34, go_sem, q0, q1, q2]) rfl ?_
        exact GivesF.box (B := w.heap.size + 1 + 1) (HF5.out.trans e7) (by rw [HV.out]; exact h7) (n7.mono (by have := e8.size; omega)) (n7'.mono (by have := e8.size; omega)) (by omega)
      · have HV := Lib.hid (HLT.out hce (by omega))
        have HXY := Lib.hid (Nat.le_trans (limbsOf_length_mono (Nat.sub_le Y X)) HP2.out)
        have hcm : cmpN X Y < 0 := cmpN_neg.2 (by omega)
        clear HSUM HGE HLT
        go_wp2_with fail
        refine (rcmp_n HX3.out HX4.out).mono ?_
        rintro _ s6 ⟨rfl, x6⟩
        have e6 := f5.trans x6
        obtain ⟨d3, d4, d5⟩ := HS.out _ e6; obtain ⟨a0, a1, a2, _, _, _⟩ := HA.out _ (Ext.trans f5' e6); obtain ⟨b0, b1, b2, _, _, _⟩ := HB.out _ (Ext.trans f5' e6); obtain ⟨r0, r1, r2, _, _, _⟩ := HR.out _ (Ext.trans f5' e6)
        generalize cmpN X Y = cm at *
        go_wp2_with fail
        refine (rsub_ge (NatV.below HX4.out e6) (NatV.below HX3.out e6) (by omega) (by have := HP2.out; have := HLI.out; omega)).mono ?_
        rintro _ s8 ⟨A8, k8, l8, rfl, h8, x8, _⟩
        have y8 := ext_alloc x8 (.cells #[.slice A8 k8 l8] 32)
        have p8 := CanV.alloc h8 (.cells #[.slice A8 k8 l8] 32)
        have d8 : (s8.alloc (.cells #[.slice A8 k8 l8] 32)).cell? ⟨s8.heap.size, 0, none⟩ = some (.slice A8 k8 l8) := by simp [go_sem]
        have e8 := e6.trans y8
        obtain ⟨d3, d4, d5⟩ := HS.out _ e8; obtain ⟨a0, a1, a2, _, _, _⟩ := HA.out _ (Ext.trans f5' e8); obtain ⟨b0, b1, b2, _, _, _⟩ := HB.out _ (Ext.trans f5' e8); obtain ⟨r0, r1, r2, _, _, _⟩ := HR.out _ (Ext.trans f5' e8)
        clear h8 x8 y8
        go_wp2_with fail
        generalize s8.alloc (.cells #[.slice A8 k8 l8] 32) = v8 at *
        refine (rnew_n (CanV.nat p8 (by have := HXY.out; have := HLI.out; unfold Fit; omega)) (NatV.below HX5.out e8) (by have := HXY.out; have := HLI.out; omega) (by have := HP3.out; have := HLI.out; omega)).mono ?_
        rintro _ s7 ⟨b7, A7, k7, l7, B7, m7, o7, rfl, h7, x7, n7, n7'⟩
        have e7 := e8.trans x7
        obtain ⟨d3, d4, d5⟩ := HS.out _ e7; obtain ⟨a0, a1, a2, _, _, _⟩ := HA.out _ (Ext.trans f5' e7); obtain ⟨b0, b1, b2, _, _, _⟩ := HB.out _ (Ext.trans f5' e7); obtain ⟨r0, r1, r2, _, _, _⟩ := HR.out _ (Ext.trans f5' e7)
        go_wp2
        obtain ⟨q0, q1, q2⟩ := set3 r0 r1 r2 (.bool b7) (.slice A7 k7 l7) (.slice B7 m7 o7)
        refine bodyPost_ret (v := .agg #[.bool b7, .slice A7 k7 l7, .slice B7 m7 o7]) (by simp [results, Try.results34, go_sem, q0, q1, q2]) rfl ?_
        exact GivesF.box (B := w.heap.size + 1 + 1) (HF5.out.trans e7) (by rw [HV.out]; exact h7) (n7.mono (by have := e8.size; omega)) (n7'.mono (by have := e8.size; omega)) (by omega)

end Go.Proofs.Ytmfigiifflljpaa
namespace Go.Proofs.Ytmfigiifflljpaa
open Go.RowKit Num

set_option maxHeartbeats 2000000 in
theorem rneg_f {b : Bool} {s t : Value} {q : Rat} {L : Nat} {w : World} (hx : AnyF w b s t q L) (hL : L ≤ 549755813887) :
    Calls Try.prog 35 #[.agg #[.bool b, s, t]] w (GivesF w (-q)) := by
  obtain ⟨n, d, hn, hd, rfl, ln, ld⟩ := hx
  have HL1 := Lib.hid ln
  have HL2 := Lib.hid ld
  rw [← frac_not]
  clear ln ld
  go_enter Try.func35, Try.ntmps35
  go_upto_region 1 with (fail)
  have hB0 := (FBox.new w (.bool b) (s) (t) 34).below (ext_alloc (Below.refl _ _) (.cells #[.bool false, .slice none 0 0, .slice none 0 0] 34))
  have hB1 := FBox.new (w.alloc (.cells #[.bool b, s, t] 34)) (.bool false) (.slice none 0 0) (.slice none 0 0) 34
  rw [show (w.alloc (.cells #[.bool b, s, t] 34)).heap.size = w.heap.size + 1 from by simp] at hB1
  have x0 : Ext w ((w.alloc (.cells #[.bool b, s, t] 34)).alloc (.cells #[.bool false, .slice none 0 0, .slice none 0 0] 34)) := ext_alloc (ext_alloc (Below.refl _ _) _) _
  have hs0 : w.heap.size + 1 + 1 ≤ ((w.alloc (.cells #[.bool b, s, t] 34)).alloc (.cells #[.bool false, .slice none 0 0, .slice none 0 0] 34)).heap.size := by simp
  generalize ((w.alloc (.cells #[.bool b, s, t] 34)).alloc (.cells #[.bool false, .slice none 0 0, .slice none 0 0] 34)) = W0 at *
  have HB0 := Lib.hid (fun (w' : World) (h : Ext W0 w') => hB0.below h)
  obtain ⟨c00, c01, c02, d00, d01, d02⟩ := hB0
  have HF := Lib.hid (fun (w' : World) (h : Ext W0 w') => hB1.below h)
  obtain ⟨r0, r1, r2, g0, g1, g2⟩ := hB1
  have HE := Lib.hid x0
  clear x0
  have f0 : Ext W0 W0 := Below.refl _ _
  have HN := Lib.hid (hn.below HE.out)
  have HD := Lib.hid (hd.below HE.out)
  clear hn hd
  go_wp2_with (go_at_call 56; (with_reducible refine (rnew_n (b := !b) HN.out HD.out (by have := HL1.out; omega) (by have := HL2.out; omega)).mono ?_); rintro e s3 ⟨b3, A3, k3, c3, B3, l3, d3, rfl, h3, z3, n3, m3⟩; have f3 : Ext W0 s3 := Ext.trans (by first | ((repeat first | assumption | exact Below.refl _ _ | refine ext_alloc ?_ _ | refine ext_drew ?_ | refine ext_set ?_ (by first | omega | (simp; done) | (simp; omega)) _); done) | fail) z3; obtain ⟨r0, r1, r2, g0, g1, g2⟩ := HF.out _ f3)
  obtain ⟨q0, q1, q2⟩ := set3 r0 r1 r2 (.bool b3) (.slice A3 k3 c3) (.slice B3 l3 d3)
  refine bodyPost_ret (v := .agg #[.bool b3, .slice A3 k3 c3, .slice B3 l3 d3]) (by simp [results, Try.results35, go_sem, q0, q1, q2]) rfl ?_
  exact GivesF.box (B := w.heap.size + 1) (HE.out.trans f3) h3 (n3.mono (by have := f0.size; omega)) (m3.mono (by have := f0.size; omega)) (by omega)

set_option maxHeartbeats 4000000 in
theorem rsub_f {b b' : Bool} {s t s' t' : Value} {p q : Rat} {L M : Nat} {w : World} (hx : AnyF w b s t p L) (hy : AnyF w b' s' t' q M) (fp : FB p L) (fq : FB q M) (hL : L + M ≤ 549755813000) :
    Calls Try.prog 37 #[.agg #[.bool b, s, t], .agg #[.bool b', s', t']] w (GivesF w (p - q)) := by
  have HLI := Lib.hid hL
  have HFP := Lib.hid fp
  have HFQ := Lib.hid (FB.neg fq)
  rw [Rat.sub_eq_add_neg]
  clear hL fp fq
  go_enter Try.func37, Try.ntmps37
  go_upto_region 1 with (fail)
  have hB0 := ((FBox.new w (.bool b) (s) (t) 34).below (ext_alloc (Below.refl _ _) (.cells #[.bool b', s', t'] 34))).below (ext_alloc (Below.refl _ _) (.cells #[.bool false, .slice none 0 0, .slice none 0 0] 34))
  have hB1 := (FBox.new (w.alloc (.cells #[.bool b, s, t] 34)) (.bool b') (s') (t') 34).below (ext_alloc (Below.refl _ _) (.cells #[.bool false, .slice none 0 0, .slice none 0 0] 34))
  rw [show (w.alloc (.cells #[.bool b, s, t] 34)).heap.size = w.heap.size + 1 from by simp] at hB1
  have hB2 := FBox.new ((w.alloc (.cells #[.bool b, s, t] 34)).alloc (.cells #[.bool b', s', t'] 34)) (.bool false) (.slice none 0 0) (.slice none 0 0) 34
  rw [show ((w.alloc (.cells #[.bool b, s, t] 34)).alloc (.cells #[.bool b', s', t'] 34)).heap.size = w.heap.size + 1 + 1 from by simp] at hB2
  have x0 : Ext w (((w.alloc (.cells #[.bool b, s, t] 34)).alloc (.cells #[.bool b', s', t'] 34)).alloc (.cells #[.bool false, .slice none 0 0, .slice none 0 0] 34)) := ext_alloc (ext_alloc (ext_alloc (Below.refl _ _) _) _) _
  have hs0 : w.heap.size + 1 + 1 + 1 ≤ (((w.alloc (.cells #[.bool b, s, t] 34)).alloc (.cells #[.bool b', s', t'] 34)).alloc (.cells #[.bool false, .slice none 0 0, .slice none 0 0] 34)).heap.size := by simp
  generalize (((w.alloc (.cells #[.bool b, s, t] 34)).alloc (.cells #[.bool b', s', t'] 34)).alloc (.cells #[.bool false, .slice none 0 0, .slice none 0 0] 34)) = W0 at *
  have HB0 := Lib.hid (fun (w' : World) (h : Ext W0 w') => hB0.below h)
  obtain ⟨c00, c01, c02, d00, d01, d02⟩ := hB0
  have HB1 := Lib.hid (fun (w' : World) (h : Ext W0 w') => hB1.below h)
  obtain ⟨c10, c11, c12, d10, d11, d12⟩ := hB1
  have HF := Lib.hid (fun (w' : World) (h : Ext W0 w') => hB2.below h)
  obtain ⟨r0, r1, r2, g0, g1, g2⟩ := hB2
  have HE := Lib.hid x0
  clear x0
  have f0 : Ext W0 W0 := Below.refl _ _
  have HX := Lib.hid (hx.below HE.out)
  have HY := Lib.hid (hy.below HE.out)
  have HC := Lib.hid (fun (w' : World) (h : Ext W0 w') => (⟨(HB0.out _ h).1, (HB0.out _ h).2.1, (HB0.out _ h).2.2.1, (HB1.out _ h).1, (HB1.out _ h).2.1, (HB1.out _ h).2.2.1⟩ : w'.cell? ⟨w.heap.size, 0, none⟩ = some (.bool b) ∧ w'.cell? ⟨w.heap.size, 1, none⟩ = some s ∧ w'.cell? ⟨w.heap.size, 2, none⟩ = some t ∧ w'.cell? ⟨w.heap.size + 1, 0, none⟩ = some (.bool b') ∧ w'.cell? ⟨w.heap.size + 1, 1, none⟩ = some s' ∧ w'.cell? ⟨w.heap.size + 1, 2, none⟩ = some t'))
  have HCA := Lib.hid (fun (w' : World) (h : Ext W0 w') (x y z : Value) => (fun (k : FBox _ _ _ _ _) (l : FBox _ _ _ _ _) => (⟨k.1, k.2.1, k.2.2.1, l.1, l.2.1, l.2.2.1⟩ : _ ∧ _ ∧ _ ∧ _ ∧ _ ∧ _)) (FBox.away (b' := w.heap.size + 1 + 1) (HB0.out _ h) (by omega) x y z) (FBox.away (b' := w.heap.size + 1 + 1) (HB1.out _ h) (by omega) x y z))
  clear hx hy
  first
    | (go_region_held3 (fun w' => w'.cell? ⟨w.heap.size, 0, none⟩ = some (.bool b) ∧ w'.cell? ⟨w.heap.size, 1, none⟩ = some s ∧ w'.cell? ⟨w.heap.size, 2, none⟩ = some t ∧ w'.cell? ⟨w.heap.size + 1, 0, none⟩ = some (.bool b') ∧ w'.cell? ⟨w.heap.size + 1, 1, none⟩ = some s' ∧ w'.cell? ⟨w.heap.size + 1, 2, none⟩ = some t') (first | exact HC.out _ (by first | ((repeat first | assumption | exact Below.refl _ _ | refine ext_alloc ?_ _ | refine ext_drew ?_ | refine ext_set ?_ (by first | omega | (simp; done) | (simp; omega)) _); done) | fail) | exact HCA.out _ f3 _ _ _)
        (first
          | (go_at_call 35; (with_reducible refine (rneg_f (HY.out.below (by first | ((repeat first | assumption | exact Below.refl _ _ | refine ext_alloc ?_ _ | refine ext_drew ?_ | refine ext_set ?_ (by first | omega | (simp; done) | (simp; omega)) _); done) | fail)) (by have := HLI.out; omega)).mono ?_); rintro _ s2 ⟨b2, A2, k2, c2, B2, l2, d2, rfl, h2, z2, _⟩; have f2 : Ext W0 s2 := Ext.trans (by first | ((repeat first | assumption | exact Below.refl _ _ | refine ext_alloc ?_ _ | refine ext_drew ?_ | refine ext_set ?_ (by first | omega | (simp; done) | (simp; omega)) _); done) | fail) z2)
          | (go_at_call 34; (with_reducible refine (radd_f (HX.out.below (by first | ((repeat first | assumption | exact Below.refl _ _ | refine ext_alloc ?_ _ | refine ext_drew ?_ | refine ext_set ?_ (by first | omega | (simp; done) | (simp; omega)) _); done) | fail)) (FracV.any h2 HFQ.out (by have := HLI.out; omega)) HFP.out HFQ.out HLI.out).mono ?_); rintro _ s3 ⟨b3, A3, k3, c3, B3, l3, d3, rfl, h3, z3, n3, m3⟩; have f3 : Ext W0 s3 := Ext.trans (by first | ((repeat first | assumption | exact Below.refl _ _ | refine ext_alloc ?_ _ | refine ext_drew ?_ | refine ext_set ?_ (by first | omega | (simp; done) | (simp; omega)) _); done) | fail) z3; obtain ⟨r0, r1, r2, g0, g1, g2⟩ := HF.out _ f3)))
    | go_wp2_with (first
          | (go_at_call 35; (with_reducible refine (rneg_f (HY.out.below (by first | ((repeat first | assumption | exact Below.refl _ _ | refine ext_alloc ?_ _ | refine ext_drew ?_ | refine ext_set ?_ (by first | omega | (simp; done) | (simp; omega)) _); done) | fail)) (by have := HLI.out; omega)).mono ?_); rintro _ s2 ⟨b2, A2, k2, c2, B2, l2, d2, rfl, h2, z2, _⟩; have f2 : Ext W0 s2 := Ext.trans (by first | ((repeat first | assumption | exact Below.refl _ _ | refine ext_alloc ?_ _ | refine ext_drew ?_ | refine ext_set ?_ (by first | omega | (simp; done) | (simp; omega)) _); done) | fail) z2; obtain ⟨c00, c01, c02, _, _, _⟩ := HB0.out _ f2)
          | (go_at_call 34; (with_reducible refine (radd_f (HX.out.below (by first | ((repeat first | assumption | exact Below.refl _ _ | refine ext_alloc ?_ _ | refine ext_drew ?_ | refine ext_set ?_ (by first | omega | (simp; done) | (simp; omega)) _); done) | fail)) (FracV.any h2 HFQ.out (by have := HLI.out; omega)) HFP.out HFQ.out HLI.out).mono ?_); rintro _ s3 ⟨b3, A3, k3, c3, B3, l3, d3, rfl, h3, z3, n3, m3⟩; have f3 : Ext W0 s3 := Ext.trans (by first | ((repeat first | assumption | exact Below.refl _ _ | refine ext_alloc ?_ _ | refine ext_drew ?_ | refine ext_set ?_ (by first | omega | (simp; done) | (simp; omega)) _); done) | fail) z3; obtain ⟨r0, r1, r2, g0, g1, g2⟩ := HF.out _ f3))
  all_goals go_wp2
  all_goals
    obtain ⟨q0, q1, q2⟩ := set3 r0 r1 r2 (.bool b3) (.slice A3 k3 c3) (.slice B3 l3 d3)
    refine bodyPost_ret (v := .agg #[.bool b3, .slice A3 k3 c3, .slice B3 l3 d3]) (by simp [results, Try.results37, go_sem, q0, q1, q2]) rfl ?_
    exact GivesF.box (B := w.heap.size + 1 + 1) (HE.out.trans f3) h3 (n3.mono (by have := f2.size; omega)) (m3.mono (by have := f2.size; omega)) (by omega)

end Go.Proofs.Ytmfigiifflljpaa
