/- fraction: Add. -/
import Derived.Test.YtbplkienkhinmaaGreatDoorFracS
import Derived.Deep.DeepCutAuto
set_option linter.unusedVariables false
set_option linter.unusedSimpArgs false
set_option maxRecDepth 100000
namespace Go.Proofs.YtbplkienkhinmaaGreatDoor
open Go.RowKit Num


theorem U32s.setFar2 {w0 w : World} {v : Value} {xs : List Nat} (h0 : U32s w0 v xs) (h : U32s w v xs) {p : Addr} (hp : w0.heap.size ≤ p.block) (u : Value) : U32s (w.setCell p u) v xs := by
  obtain ⟨A, cap, rfl, h2, h3, h4⟩ := h0
  obtain ⟨A', cap', e, k2, k3, k4⟩ := id h
  injection e with e1 e2 e3
  subst e1
  subst e3
  refine ⟨A, cap, rfl, h2, h3, k4.1, fun hn => ?_⟩
  obtain ⟨ad, rfl, hb, hc⟩ := h4.2 hn
  obtain ⟨ad', e', hb', hc'⟩ := k4.2 hn
  cases e'
  exact ⟨ad, rfl, by simpa using hb', fun j x hx => (World.cell?_setCell_other w p _ u (fun e => by have := congrArg Addr.block e; rw [block_of_add] at this; omega)).trans (hc' j x hx)⟩

set_option maxHeartbeats 8000000 in
theorem add_f {b b' : Bool} {s t s' t' : Value} {p q : Rat} {L M : Nat} {w : World} (hx : AnyF w b s t p L) (hy : AnyF w b' s' t' q M) (fp : FB p L) (fq : FB q M) (hL : L + M ≤ 549755813000) :
    Calls Tryz.prog 63 #[.agg #[.bool b, s, t], .agg #[.bool b', s', t']] w (GivesF w (p + q)) := by
  have HLI := Lib.hid hL
  have HFP := Lib.hid fp
  have HFQ := Lib.hid fq
  clear hL fp fq
  go_enter Tryz.func63, Tryz.ntmps63
  go_upto_region 1 with (fail)
  have hX0 := FBox.new w (.bool b) s t 27
  have hY0 := FBox.new (w.alloc (.cells #[.bool b, s, t] 27)) (.bool b') s' t' 27
  have hF0 := FBox.new ((w.alloc (.cells #[.bool b, s, t] 27)).alloc (.cells #[.bool b', s', t'] 27)) (.bool false) (.slice none 0 0) (.slice none 0 0) 27
  have hX1 := (hX0.below (ext_alloc (Below.refl _ _) (.cells #[.bool b', s', t'] 27))).below (ext_alloc (Below.refl _ _) (.cells #[.bool false, .slice none 0 0, .slice none 0 0] 27))
  have hY1 := hY0.below (ext_alloc (Below.refl _ _) (.cells #[.bool false, .slice none 0 0, .slice none 0 0] 27))
  have x0 : Ext w (((w.alloc (.cells #[.bool b, s, t] 27)).alloc (.cells #[.bool b', s', t'] 27)).alloc (.cells #[.bool false, .slice none 0 0, .slice none 0 0] 27)) := ext_alloc (ext_alloc (ext_alloc (Below.refl _ _) _) _) _
  have hs0 : w.heap.size + 1 + 1 + 1 ≤ (((w.alloc (.cells #[.bool b, s, t] 27)).alloc (.cells #[.bool b', s', t'] 27)).alloc (.cells #[.bool false, .slice none 0 0, .slice none 0 0] 27)).heap.size := by simp
  rw [show (w.alloc (.cells #[.bool b, s, t] 27)).heap.size = w.heap.size + 1 from by simp] at hY1
  rw [show ((w.alloc (.cells #[.bool b, s, t] 27)).alloc (.cells #[.bool b', s', t'] 27)).heap.size = w.heap.size + 1 + 1 from by simp] at hF0
  clear hX0 hY0
  generalize ((w.alloc (.cells #[.bool b, s, t] 27)).alloc (.cells #[.bool b', s', t'] 27)).alloc (.cells #[.bool false, .slice none 0 0, .slice none 0 0] 27) = W0 at *
  have hs1 : w.heap.size + 1 + 1 ≤ W0.heap.size := by omega
  have HX := Lib.hid (fun (w' : World) (h : Ext W0 w') => hX1.below h)
  have HY := Lib.hid (fun (w' : World) (h : Ext W0 w') => hY1.below h)
  have HF := Lib.hid (fun (w' : World) (h : Ext W0 w') => hF0.below h)
  have HE := Lib.hid x0
  have f0 : Ext W0 W0 := Below.refl _ _
  have HAX := Lib.hid (hx.below x0)
  have HAY := Lib.hid (hy.below x0)
  obtain ⟨cx0, cx1, cx2, gx0, gx1, gx2⟩ := hX1
  obtain ⟨cy0, cy1, cy2, gy0, gy1, gy2⟩ := hY1
  clear x0 hF0 hx hy
  go_cut [] (fun wx => ∃ (c : Bool) (A : Option Addr) (k l : Nat) (A' : Option Addr) (k' l' : Nat) (e : Bool) (B : Option Addr) (m o : Nat) (B' : Option Addr) (m' o' : Nat),
      FBox wx w.heap.size (.bool c) (.slice A k l) (.slice A' k' l') ∧ FBox wx (w.heap.size + 1) (.bool e) (.slice B m o) (.slice B' m' o') ∧ FBox wx (w.heap.size + 1 + 1) (.bool false) (.slice none 0 0) (.slice none 0 0) ∧
      FracV wx c (.slice A k l) (.slice A' k' l') p ∧ FracV wx e (.slice B m o) (.slice B' m' o') q ∧ Ext w wx)
  case first =>
    go_region_law (first
      | (go_simp; go_at_call 37; (with_reducible refine (norm_f (AnyF.below HAX.out (by first | ((repeat first | assumption | exact Below.refl _ _ | refine ext_alloc ?_ _ | refine ext_drew ?_ | refine ext_set ?_ (by first | omega | (simp; done) | (simp; omega)) _); done) | fail)) (by have := HLI.out; omega)).mono ?_); rintro _ s1 ⟨c1, A1, k1, l1, B1, m1, o1, rfl, h1, z1, n1, n1'⟩; have n1 := n1.mono (B' := w.heap.size + 1 + 1) (by first | exact hs1 | (have := f2.size; omega)); have n1' := n1'.mono (B' := w.heap.size + 1 + 1) (by first | exact hs1 | (have := f2.size; omega)); have f1 : Ext W0 s1 := Ext.trans (by first | ((repeat first | assumption | exact Below.refl _ _ | refine ext_alloc ?_ _ | refine ext_drew ?_ | refine ext_set ?_ (by first | omega | (simp; done) | (simp; omega)) _); done) | fail) z1; obtain ⟨cx0, cx1, cx2, gx0, gx1, gx2⟩ := HX.out _ f1; obtain ⟨cy0, cy1, cy2, gy0, gy1, gy2⟩ := HY.out _ f1)
      | (go_simp; go_at_call 37; (with_reducible refine (norm_f (AnyF.below HAY.out (by first | ((repeat first | assumption | exact Below.refl _ _ | refine ext_alloc ?_ _ | refine ext_drew ?_ | refine ext_set ?_ (by first | omega | (simp; done) | (simp; omega)) _); done) | fail)) (by have := HLI.out; omega)).mono ?_); rintro _ s2 ⟨c2, A2, k2, l2, B2, m2, o2, rfl, h2, z2, n2, n2'⟩; have n2 := n2.mono (B' := w.heap.size + 1 + 1) (by first | exact hs1 | (have := f1.size; omega)); have n2' := n2'.mono (B' := w.heap.size + 1 + 1) (by first | exact hs1 | (have := f1.size; omega)); have f2 : Ext W0 s2 := Ext.trans (by first | ((repeat first | assumption | exact Below.refl _ _ | refine ext_alloc ?_ _ | refine ext_drew ?_ | refine ext_set ?_ (by first | omega | (simp; done) | (simp; omega)) _); done) | fail) z2; obtain ⟨cx0, cx1, cx2, gx0, gx1, gx2⟩ := HX.out _ f2; obtain ⟨cy0, cy1, cy2, gy0, gy1, gy2⟩ := HY.out _ f2))
    all_goals go_wp2
    all_goals go_meet
    all_goals first
      | (exact ⟨c1, A1, k1, l1, B1, m1, o1, c2, A2, k2, l2, B2, m2, o2, ((HX.out _ f2).put _ _ _).away (by omega) _ _ _, ((HY.out _ f2).away (by omega) _ _ _).put _ _ _, ((HF.out _ f2).away (by omega) _ _ _).away (by omega) _ _ _, (FracV.put (FracV.below h1 (by first | exact z2 | exact Ext.trans (ext_drew (Below.refl _ _)) z2)) n1 n1' (by omega) _ _ _).put n1 n1' (by omega) _ _ _, (FracV.put h2 n2 n2' (by omega) _ _ _).put n2 n2' (by omega) _ _ _, ext_put (ext_put (HE.out.trans f2) (by omega) _ _ _) (by omega) _ _ _⟩)
      | (exact ⟨c1, A1, k1, l1, B1, m1, o1, c2, A2, k2, l2, B2, m2, o2, ((HX.out _ f1).put _ _ _).away (by omega) _ _ _, ((HY.out _ f1).away (by omega) _ _ _).put _ _ _, ((HF.out _ f1).away (by omega) _ _ _).away (by omega) _ _ _, (FracV.put h1 n1 n1' (by omega) _ _ _).put n1 n1' (by omega) _ _ _, (FracV.put (FracV.below h2 (by first | exact z1 | exact Ext.trans (ext_drew (Below.refl _ _)) z1)) n2 n2' (by omega) _ _ _).put n2 n2' (by omega) _ _ _, ext_put (ext_put (HE.out.trans f1) (by omega) _ _ _) (by omega) _ _ _⟩)
  case rest =>
    clear cx0 cx1 cx2 gx0 gx1 gx2 cy0 cy1 cy2 gy0 gy1 gy2
    obtain ⟨c, A, k, l, A', k', l', e, B, m, o, B', m', o', hA, hB, hR, vA, vB, hE1⟩ := hcut
    obtain ⟨W1, hW1⟩ : ∃ W1 : World, W1 = wc := ⟨_, rfl⟩
    subst hW1
    have HA := Lib.hid (fun (w' : World) (h : Ext W1 w') => hA.below h)
    have HB := Lib.hid (fun (w' : World) (h : Ext W1 w') => hB.below h)
    have HR := Lib.hid (fun (w' : World) (h : Ext W1 w') => hR.below h)
    have HE1 := Lib.hid hE1
    have HN := Lib.hid (CanV.nat vA.2.1 (Nat.le_trans HFP.out.1 (by have := HLI.out; omega)))
    have HD := Lib.hid (CanV.nat vA.2.2 (Nat.le_trans HFP.out.2 (by have := HLI.out; omega)))
    have HM := Lib.hid (CanV.nat vB.2.1 (Nat.le_trans HFQ.out.1 (by have := HLI.out; omega)))
    have HE2 := Lib.hid (CanV.nat vB.2.2 (Nat.le_trans HFQ.out.2 (by have := HLI.out; omega)))
    have HZ1 := Lib.hid HFP.out.1
    have HZ2 := Lib.hid HFP.out.2
    have HZ3 := Lib.hid HFQ.out.1
    have HZ4 := Lib.hid HFQ.out.2
    have HSG := Lib.hid (⟨vA.1, vB.1⟩ : c = decide (p < 0) ∧ e = decide (q < 0))
    have hs3 : w.heap.size + 1 + 1 < W1.heap.size := World.block_lt_of_cell? _ _ hR.1
    obtain ⟨a0, a1, a2, _, _, _⟩ := hA
    obtain ⟨b0, b1, b2, _, _, _⟩ := hB
    clear hR vA vB hE1
    have HP1 := Lib.hid (show (limbsOf (p.num.natAbs * q.den)).length ≤ L + M from Nat.le_trans (limbsOf_length_mul _ _) (Nat.add_le_add HFP.out.1 HFQ.out.2))
    have HP2 := Lib.hid (show (limbsOf (q.num.natAbs * p.den)).length ≤ L + M from by have := Nat.le_trans (limbsOf_length_mul q.num.natAbs p.den) (Nat.add_le_add HFQ.out.1 HFP.out.2); omega)
    have HP3 := Lib.hid (show (limbsOf (p.den * q.den)).length ≤ L + M from Nat.le_trans (limbsOf_length_mul _ _) (Nat.add_le_add HFP.out.2 HFQ.out.2))
    have HSUM := Lib.hid (show ∀ z, c = e → z = p.num.natAbs * q.den + q.num.natAbs * p.den → p + q = frac c z (p.den * q.den) from fun z h hz => by
      rw [hz, ← frac_add p.den_nz q.den_nz, HSG.out.1, frac_self]
      conv => rhs; rw [← HSG.out.1, h, HSG.out.2, frac_self])
    have HGE := Lib.hid (show c ≠ e → q.num.natAbs * p.den ≤ p.num.natAbs * q.den → p + q = frac c (p.num.natAbs * q.den - q.num.natAbs * p.den) (p.den * q.den) from fun h hz => by
      rw [← frac_sub_ge p.den_nz q.den_nz hz, show (!c) = e from by cases c <;> cases e <;> simp_all, HSG.out.1, HSG.out.2, frac_self, frac_self])
    have HLT := Lib.hid (show c ≠ e → p.num.natAbs * q.den ≤ q.num.natAbs * p.den → p + q = frac e (q.num.natAbs * p.den - p.num.natAbs * q.den) (p.den * q.den) from fun h hz => by
      have := frac_sub_lt (b := c) p.den_nz q.den_nz hz
      rw [show (!c) = e from by cases c <;> cases e <;> simp_all] at this
      rw [← this, HSG.out.1, HSG.out.2, frac_self, frac_self])
    have g0 : Ext W1 W1 := Below.refl _ _
    have HAB := Lib.hid (fun (w' : World) (h : Ext W1 w') => (⟨(HA.out _ h).1, (HA.out _ h).2.1, (HA.out _ h).2.2.1, (HB.out _ h).1, (HB.out _ h).2.1, (HB.out _ h).2.2.1⟩ : w'.cell? ⟨w.heap.size, 0, none⟩ = some (.bool c) ∧ w'.cell? ⟨w.heap.size, 1, none⟩ = some (.slice A k l) ∧ w'.cell? ⟨w.heap.size, 2, none⟩ = some (.slice A' k' l') ∧ w'.cell? ⟨w.heap.size + 1, 0, none⟩ = some (.bool e) ∧ w'.cell? ⟨w.heap.size + 1, 1, none⟩ = some (.slice B m o) ∧ w'.cell? ⟨w.heap.size + 1, 2, none⟩ = some (.slice B' m' o')))
    go_upto_region 2 with (fail)
    go_cut [5, 6] (fun xv yv wx => NBoxAt W1 wx xv (p.num.natAbs * q.den) ∧ NBoxAt W1 wx yv (q.num.natAbs * p.den))
    case first =>
      go_region_held3 (fun w' => w'.cell? ⟨w.heap.size, 0, none⟩ = some (.bool c) ∧ w'.cell? ⟨w.heap.size, 1, none⟩ = some (.slice A k l) ∧ w'.cell? ⟨w.heap.size, 2, none⟩ = some (.slice A' k' l') ∧ w'.cell? ⟨w.heap.size + 1, 0, none⟩ = some (.bool e) ∧ w'.cell? ⟨w.heap.size + 1, 1, none⟩ = some (.slice B m o) ∧ w'.cell? ⟨w.heap.size + 1, 2, none⟩ = some (.slice B' m' o')) (exact HAB.out _ (by first | ((repeat first | assumption | exact Below.refl _ _ | refine ext_alloc ?_ _ | refine ext_drew ?_ | refine ext_set ?_ (by first | omega | (simp; done) | (simp; omega)) _); done) | fail)) (first
        | (go_at_call 24; (with_reducible refine (mul_n (NatV.below HN.out (by first | ((repeat first | assumption | exact Below.refl _ _ | refine ext_alloc ?_ _ | refine ext_drew ?_ | refine ext_set ?_ (by first | omega | (simp; done) | (simp; omega)) _); done) | fail)) (NatV.below HE2.out (by first | ((repeat first | assumption | exact Below.refl _ _ | refine ext_alloc ?_ _ | refine ext_drew ?_ | refine ext_set ?_ (by first | omega | (simp; done) | (simp; omega)) _); done) | fail)) (by have := HZ1.out; have := HZ2.out; have := HZ3.out; have := HZ4.out; have := HLI.out; omega)).mono ?_); rintro _ s3 ⟨A3, k3, l3, rfl, h3, x3, n3⟩; have f3 : Ext W1 s3 := Ext.trans (by first | ((repeat first | assumption | exact Below.refl _ _ | refine ext_alloc ?_ _ | refine ext_drew ?_ | refine ext_set ?_ (by first | omega | (simp; done) | (simp; omega)) _); done) | fail) x3; (try (have e43 : Ext s4 s3 := by refine Ext.trans ?_ x3; (repeat first | assumption | exact Below.refl _ _ | refine ext_alloc ?_ _ | refine ext_drew ?_ | (refine ext_set ?_ ?hle _; case hle => (first | omega | (simp; done) | (simp; omega)))); done)); have y3 : W1.heap.size ≤ s3.heap.size := f3.size; (try (have lt1 : W1.heap.size < s3.heap.size := by have := x3.size; (try simp at this); omega)); (try (have ne1 : ¬ W1.heap.size = s3.heap.size := by omega)); (try (have nf1 : ¬ s3.heap.size = W1.heap.size := by omega)); (try (have lt2 : W1.heap.size + 1 < s3.heap.size := by have := x3.size; (try simp at this); omega)); (try (have ne2 : ¬ W1.heap.size + 1 = s3.heap.size := by omega)); (try (have nf2 : ¬ s3.heap.size = W1.heap.size + 1 := by omega)); (try (have lt3 : s4.heap.size < s3.heap.size := by have := x3.size; (try simp at this); omega)); (try (have ne3 : ¬ s4.heap.size = s3.heap.size := by omega)); (try (have nf3 : ¬ s3.heap.size = s4.heap.size := by omega)); (try (have lt4 : s4.heap.size + 1 < s3.heap.size := by have := x3.size; (try simp at this); omega)); (try (have ne4 : ¬ s4.heap.size + 1 = s3.heap.size := by omega)); (try (have nf4 : ¬ s3.heap.size = s4.heap.size + 1 := by omega)); (try (have dc1 : s3.cell? ⟨W1.heap.size, 0, none⟩ = some (.slice none 0 0) := by rw [x3.cell (by first | (simp; done) | (simp; omega) | omega)]; first | assumption | (simp [go_sem]; done) | (simp [go_sem, *]; done))); (try (have df1 : s3.frozen? ⟨W1.heap.size, 0, none⟩ = false := by rw [x3.frozen (by first | (simp; done) | (simp; omega) | omega)]; first | assumption | (simp [go_sem]; done) | (simp [go_sem, *]; done))); (try (have dc2 : s3.cell? ⟨W1.heap.size + 1, 0, none⟩ = some (.slice none 0 0) := by rw [x3.cell (by first | (simp; done) | (simp; omega) | omega)]; first | assumption | (simp [go_sem]; done) | (simp [go_sem, *]; done))); (try (have df2 : s3.frozen? ⟨W1.heap.size + 1, 0, none⟩ = false := by rw [x3.frozen (by first | (simp; done) | (simp; omega) | omega)]; first | assumption | (simp [go_sem]; done) | (simp [go_sem, *]; done))); (try (have dc3 : s3.cell? ⟨s4.heap.size, 0, none⟩ = some (.slice none 0 0) := by rw [x3.cell (by first | (simp; done) | (simp; omega) | omega)]; first | assumption | (simp [go_sem]; done) | (simp [go_sem, *]; done))); (try (have df3 : s3.frozen? ⟨s4.heap.size, 0, none⟩ = false := by rw [x3.frozen (by first | (simp; done) | (simp; omega) | omega)]; first | assumption | (simp [go_sem]; done) | (simp [go_sem, *]; done))); (try (have dc4 : s3.cell? ⟨s4.heap.size + 1, 0, none⟩ = some (.slice none 0 0) := by rw [x3.cell (by first | (simp; done) | (simp; omega) | omega)]; first | assumption | (simp [go_sem]; done) | (simp [go_sem, *]; done))); (try (have df4 : s3.frozen? ⟨s4.heap.size + 1, 0, none⟩ = false := by rw [x3.frozen (by first | (simp; done) | (simp; omega) | omega)]; first | assumption | (simp [go_sem]; done) | (simp [go_sem, *]; done))))
        | (go_at_call 24; (with_reducible refine (mul_n (NatV.below HM.out (by first | ((repeat first | assumption | exact Below.refl _ _ | refine ext_alloc ?_ _ | refine ext_drew ?_ | refine ext_set ?_ (by first | omega | (simp; done) | (simp; omega)) _); done) | fail)) (NatV.below HD.out (by first | ((repeat first | assumption | exact Below.refl _ _ | refine ext_alloc ?_ _ | refine ext_drew ?_ | refine ext_set ?_ (by first | omega | (simp; done) | (simp; omega)) _); done) | fail)) (by have := HZ1.out; have := HZ2.out; have := HZ3.out; have := HZ4.out; have := HLI.out; omega)).mono ?_); rintro _ s4 ⟨A4, k4, l4, rfl, h4, x4, n4⟩; have f4 : Ext W1 s4 := Ext.trans (by first | ((repeat first | assumption | exact Below.refl _ _ | refine ext_alloc ?_ _ | refine ext_drew ?_ | refine ext_set ?_ (by first | omega | (simp; done) | (simp; omega)) _); done) | fail) x4; (try (have e34 : Ext s3 s4 := by refine Ext.trans ?_ x4; (repeat first | assumption | exact Below.refl _ _ | refine ext_alloc ?_ _ | refine ext_drew ?_ | (refine ext_set ?_ ?hle _; case hle => (first | omega | (simp; done) | (simp; omega)))); done)); have y4 : W1.heap.size ≤ s4.heap.size := f4.size; (try (have lt1 : W1.heap.size < s4.heap.size := by have := x4.size; (try simp at this); omega)); (try (have ne1 : ¬ W1.heap.size = s4.heap.size := by omega)); (try (have nf1 : ¬ s4.heap.size = W1.heap.size := by omega)); (try (have lt2 : W1.heap.size + 1 < s4.heap.size := by have := x4.size; (try simp at this); omega)); (try (have ne2 : ¬ W1.heap.size + 1 = s4.heap.size := by omega)); (try (have nf2 : ¬ s4.heap.size = W1.heap.size + 1 := by omega)); (try (have lt3 : s3.heap.size < s4.heap.size := by have := x4.size; (try simp at this); omega)); (try (have ne3 : ¬ s3.heap.size = s4.heap.size := by omega)); (try (have nf3 : ¬ s4.heap.size = s3.heap.size := by omega)); (try (have lt4 : s3.heap.size + 1 < s4.heap.size := by have := x4.size; (try simp at this); omega)); (try (have ne4 : ¬ s3.heap.size + 1 = s4.heap.size := by omega)); (try (have nf4 : ¬ s4.heap.size = s3.heap.size + 1 := by omega)); (try (have dc1 : s4.cell? ⟨W1.heap.size, 0, none⟩ = some (.slice none 0 0) := by rw [x4.cell (by first | (simp; done) | (simp; omega) | omega)]; first | assumption | (simp [go_sem]; done) | (simp [go_sem, *]; done))); (try (have df1 : s4.frozen? ⟨W1.heap.size, 0, none⟩ = false := by rw [x4.frozen (by first | (simp; done) | (simp; omega) | omega)]; first | assumption | (simp [go_sem]; done) | (simp [go_sem, *]; done))); (try (have dc2 : s4.cell? ⟨W1.heap.size + 1, 0, none⟩ = some (.slice none 0 0) := by rw [x4.cell (by first | (simp; done) | (simp; omega) | omega)]; first | assumption | (simp [go_sem]; done) | (simp [go_sem, *]; done))); (try (have df2 : s4.frozen? ⟨W1.heap.size + 1, 0, none⟩ = false := by rw [x4.frozen (by first | (simp; done) | (simp; omega) | omega)]; first | assumption | (simp [go_sem]; done) | (simp [go_sem, *]; done))); (try (have dc3 : s4.cell? ⟨s3.heap.size, 0, none⟩ = some (.slice none 0 0) := by rw [x4.cell (by first | (simp; done) | (simp; omega) | omega)]; first | assumption | (simp [go_sem]; done) | (simp [go_sem, *]; done))); (try (have df3 : s4.frozen? ⟨s3.heap.size, 0, none⟩ = false := by rw [x4.frozen (by first | (simp; done) | (simp; omega) | omega)]; first | assumption | (simp [go_sem]; done) | (simp [go_sem, *]; done))); (try (have dc4 : s4.cell? ⟨s3.heap.size + 1, 0, none⟩ = some (.slice none 0 0) := by rw [x4.cell (by first | (simp; done) | (simp; omega) | omega)]; first | assumption | (simp [go_sem]; done) | (simp [go_sem, *]; done))); (try (have df4 : s4.frozen? ⟨s3.heap.size + 1, 0, none⟩ = false := by rw [x4.frozen (by first | (simp; done) | (simp; omega) | omega)]; first | assumption | (simp [go_sem]; done) | (simp [go_sem, *]; done)))))
      all_goals go_wp2
      all_goals go_meet
      all_goals refine ⟨⟨_, A3, k3, l3, rfl, ?_, ?_, ?_⟩, ⟨_, A4, k4, l4, rfl, ?_, ?_, ?_⟩⟩
      all_goals try (show Ext _ _; exact (by first | ((repeat first | assumption | exact Below.refl _ _ | refine ext_alloc ?_ _ | refine ext_drew ?_ | refine ext_set ?_ (by first | omega | (simp; done) | (simp; omega)) _); done) | fail))
      all_goals try (show CanV _ _ _; repeat first | (refine CanV.below h3 ?_; (repeat first | assumption | exact Below.refl _ _ | refine ext_alloc ?_ _ | refine ext_drew ?_ | (refine ext_set ?_ ?hle _; case hle => (first | omega | (simp; done) | (simp; omega)))); done) | (refine CanV.below h4 ?_; (repeat first | assumption | exact Below.refl _ _ | refine ext_alloc ?_ _ | refine ext_drew ?_ | (refine ext_set ?_ ?hle _; case hle => (first | omega | (simp; done) | (simp; omega)))); done) | (refine U32s.setNew ?_ n3 ?hlt _; case hlt => (show _ < _; first | omega | (simp; done) | (simp; omega))) | (refine U32s.setNew ?_ n4 ?hlt _; case hlt => (show _ < _; first | omega | (simp; done) | (simp; omega))) | (refine U32s.setFar2 (w0 := s3) h3 ?_ ?hlt _; case hlt => (show _ ≤ _; first | omega | (simp; done) | (simp; omega))) | (refine U32s.setFar2 (w0 := s4) h4 ?_ ?hlt _; case hlt => (show _ ≤ _; first | omega | (simp; done) | (simp; omega))) | refine CanV.alloc ?_ _ | refine CanV.below ?_ x4 | refine CanV.below ?_ x3 | refine CanV.drew ?_)
      all_goals try (first | (simp [go_sem]; done) | (simp [go_sem, *]; done))
    case rest =>
      clear a0 a1 a2 b0 b1 b2
      obtain ⟨⟨b3, A3, k3, l3, rfl, d3, p3, f3⟩, ⟨b4, A4, k4, l4, rfl, d4, p4, f4'⟩⟩ := hcut
      obtain ⟨v4, hv4⟩ : ∃ v4 : World, v4 = wc := ⟨_, rfl⟩
      subst hv4
      have f4 : Ext W1 v4 := f3
      obtain ⟨a0, a1, a2, _, _, _⟩ := HA.out _ f4
      obtain ⟨b0, b1, b2, _, _, _⟩ := HB.out _ f4
      clear f3 f4'
      go_wp2_with fail
      refine (mul_n (NatV.below HD.out f4) (NatV.below HE2.out f4) (by have := HZ1.out; have := HZ2.out; have := HZ3.out; have := HZ4.out; have := HLI.out; omega)).mono ?_
      rintro _ u5 ⟨A5, k5, l5, rfl, h5, x5, _⟩
      have y5 := ext_alloc x5 (.cells #[.slice A5 k5 l5] 25)
      have p5 := CanV.alloc h5 (.cells #[.slice A5 k5 l5] 25)
      have d5 : (u5.alloc (.cells #[.slice A5 k5 l5] 25)).cell? ⟨u5.heap.size, 0, none⟩ = some (.slice A5 k5 l5) := by simp [go_sem]
      have p3 := CanV.below p3 y5
      have d3 := (y5.cell (p := ⟨b3, 0, none⟩) (World.block_lt_of_cell? _ _ d3)).trans d3
      have p4 := CanV.below p4 y5
      have d4 := (y5.cell (p := ⟨b4, 0, none⟩) (World.block_lt_of_cell? _ _ d4)).trans d4
      have f5 := Ext.trans f4 y5
      obtain ⟨a0, a1, a2, _, _, _⟩ := HA.out _ f5
      obtain ⟨b0, b1, b2, _, _, _⟩ := HB.out _ f5
      clear h5 x5 y5
      go_upto_region 4 with (fail)
      generalize u5.alloc (.cells #[.slice A5 k5 l5] 25) = v5 at *
      generalize p.num.natAbs * q.den = X at *
      generalize q.num.natAbs * p.den = Y at *
      generalize p.den * q.den = D at *
      have HS := Lib.hid (fun (w' : World) (h : Ext v5 w') => (⟨(h.cell (p := ⟨b3, 0, none⟩) (World.block_lt_of_cell? _ _ d3)).trans d3, (h.cell (p := ⟨b4, 0, none⟩) (World.block_lt_of_cell? _ _ d4)).trans d4, (h.cell (p := ⟨u5.heap.size, 0, none⟩) (World.block_lt_of_cell? _ _ d5)).trans d5⟩ : w'.cell? ⟨b3, 0, none⟩ = some (.slice A3 k3 l3) ∧ w'.cell? ⟨b4, 0, none⟩ = some (.slice A4 k4 l4) ∧ w'.cell? ⟨u5.heap.size, 0, none⟩ = some (.slice A5 k5 l5)))
      have HX3 := Lib.hid (CanV.nat p3 (by have := HP1.out; have := HLI.out; unfold Fit; omega))
      have HX4 := Lib.hid (CanV.nat p4 (by have := HP2.out; have := HLI.out; unfold Fit; omega))
      have HX5 := Lib.hid (CanV.nat p5 (by have := HP3.out; have := HLI.out; unfold Fit; omega))
      have hv5 : w.heap.size + 1 + 1 + 1 ≤ v5.heap.size := by have := f5.size; omega
      have HF5 := Lib.hid (Ext.trans HE1.out f5)
      have f5' := f5
      clear p3 p4 p5 f4
      have f5 : Ext v5 v5 := Below.refl _ _
      by_cases hce : c = e
      · have HV := Lib.hid (HSUM.out (X + Y) hce rfl)
        subst hce
        have HXY := Lib.hid (len_add (a := X) (b := Y) (k := L + M) HP1.out HP2.out)
        clear HSUM HGE HLT
        go_upto_region 5 with (fail)
        go_region_law (first
          | (go_simp; go_at_call 74; (with_reducible refine (add_n (NatV.below HX3.out (by first | ((repeat first | assumption | exact Below.refl _ _ | refine ext_alloc ?_ _ | refine ext_drew ?_ | refine ext_set ?_ (by first | omega | (simp; done) | (simp; omega)) _); done) | fail)) (NatV.below HX4.out (by first | ((repeat first | assumption | exact Below.refl _ _ | refine ext_alloc ?_ _ | refine ext_drew ?_ | refine ext_set ?_ (by first | omega | (simp; done) | (simp; omega)) _); done) | fail)) (by have := HP1.out; have := HLI.out; omega) (by have := HP2.out; have := HLI.out; omega)).mono ?_); rintro _ s6 ⟨A6, k6, l6, rfl, h6, x6, _⟩; have e6 : Ext v5 s6 := Ext.trans (by first | ((repeat first | assumption | exact Below.refl _ _ | refine ext_alloc ?_ _ | refine ext_drew ?_ | refine ext_set ?_ (by first | omega | (simp; done) | (simp; omega)) _); done) | fail) x6; obtain ⟨d3, d4, d5⟩ := HS.out _ e6; obtain ⟨a0, a1, a2, _, _, _⟩ := HA.out _ (Ext.trans f5' e6); obtain ⟨b0, b1, b2, _, _, _⟩ := HB.out _ (Ext.trans f5' e6); obtain ⟨r0, r1, r2, _, _, _⟩ := HR.out _ (Ext.trans f5' e6))
          | (go_simp; go_at_call 30; (with_reducible refine (made_n (CanV.nat h6 (by have := HXY.out; have := HLI.out; unfold Fit; omega)) (NatV.below HX5.out (by first | ((repeat first | assumption | exact Below.refl _ _ | refine ext_alloc ?_ _ | refine ext_drew ?_ | refine ext_set ?_ (by first | omega | (simp; done) | (simp; omega)) _); done) | fail)) (by have := HXY.out; have := HLI.out; omega) (by have := HP3.out; have := HLI.out; omega)).mono ?_); rintro _ s7 ⟨b7, A7, k7, l7, B7, m7, o7, rfl, h7, x7, n7, n7'⟩; have e7 : Ext v5 s7 := Ext.trans (by first | ((repeat first | assumption | exact Below.refl _ _ | refine ext_alloc ?_ _ | refine ext_drew ?_ | refine ext_set ?_ (by first | omega | (simp; done) | (simp; omega)) _); done) | fail) x7; obtain ⟨d3, d4, d5⟩ := HS.out _ e7; obtain ⟨a0, a1, a2, _, _, _⟩ := HA.out _ (Ext.trans f5' e7); obtain ⟨b0, b1, b2, _, _, _⟩ := HB.out _ (Ext.trans f5' e7); obtain ⟨r0, r1, r2, _, _, _⟩ := HR.out _ (Ext.trans f5' e7)))
        all_goals go_wp2
        all_goals
          obtain ⟨q0, q1, q2⟩ := set3 r0 r1 r2 (.bool b7) (.slice A7 k7 l7) (.slice B7 m7 o7)
          refine bodyPost_ret (v := .agg #[.bool b7, .slice A7 k7 l7, .slice B7 m7 o7]) (by simp [results, Tryz.results63, go_sem, q0, q1, q2]) rfl ?_
          exact GivesF.box (B := w.heap.size + 1 + 1) (HF5.out.trans e7) (by rw [HV.out]; exact h7) (n7.mono (by have := e6.size; omega)) (n7'.mono (by have := e6.size; omega)) (by omega)
      · have hb : (c == e) = false := by simp [hce]
        by_cases hge : Y ≤ X
        · have HV := Lib.hid (HGE.out hce hge)
          have HXY := Lib.hid (Nat.le_trans (limbsOf_length_mono (Nat.sub_le X Y)) HP1.out)
          clear HSUM HGE HLT
          go_wp2_with fail
          refine (sub_ge HX3.out HX4.out hge (by have := HP1.out; have := HLI.out; omega)).mono ?_
          rintro _ s8 ⟨A8, k8, l8, rfl, h8, x8, _⟩
          have y8 := ext_alloc x8 (.cells #[.slice A8 k8 l8] 25)
          have p8 := CanV.alloc h8 (.cells #[.slice A8 k8 l8] 25)
          have d8 : (s8.alloc (.cells #[.slice A8 k8 l8] 25)).cell? ⟨s8.heap.size, 0, none⟩ = some (.slice A8 k8 l8) := by simp [go_sem]
          have e8 := f5.trans y8
          obtain ⟨d3, d4, d5⟩ := HS.out _ e8; obtain ⟨a0, a1, a2, _, _, _⟩ := HA.out _ (Ext.trans f5' e8); obtain ⟨b0, b1, b2, _, _, _⟩ := HB.out _ (Ext.trans f5' e8); obtain ⟨r0, r1, r2, _, _, _⟩ := HR.out _ (Ext.trans f5' e8)
          clear h8 x8 y8
          go_upto_region 7 with (fail)
          generalize s8.alloc (.cells #[.slice A8 k8 l8] 25) = v8 at *
          generalize s8.heap.size = b8 at *
          go_wp2_with fail
          refine (made_n (CanV.nat p8 (by have := HXY.out; have := HLI.out; unfold Fit; omega)) (NatV.below HX5.out e8) (by have := HXY.out; have := HLI.out; omega) (by have := HP3.out; have := HLI.out; omega)).mono ?_
          rintro _ s7 ⟨b7, A7, k7, l7, B7, m7, o7, rfl, h7, x7, n7, n7'⟩
          have e7 := e8.trans x7
          obtain ⟨d3, d4, d5⟩ := HS.out _ e7; obtain ⟨a0, a1, a2, _, _, _⟩ := HA.out _ (Ext.trans f5' e7); obtain ⟨b0, b1, b2, _, _, _⟩ := HB.out _ (Ext.trans f5' e7); obtain ⟨r0, r1, r2, _, _, _⟩ := HR.out _ (Ext.trans f5' e7)
          go_wp2
          obtain ⟨q0, q1, q2⟩ := set3 r0 r1 r2 (.bool b7) (.slice A7 k7 l7) (.slice B7 m7 o7)
          refine bodyPost_ret (v := .agg #[.bool b7, .slice A7 k7 l7, .slice B7 m7 o7]) (by simp [results, Tryz.results63, go_sem, q0, q1, q2]) rfl ?_
          exact GivesF.box (B := w.heap.size + 1 + 1) (HF5.out.trans e7) (by rw [HV.out]; exact h7) (n7.mono (by have := e8.size; omega)) (n7'.mono (by have := e8.size; omega)) (by omega)
        · have HV := Lib.hid (HLT.out hce (by omega))
          have HXY := Lib.hid (Nat.le_trans (limbsOf_length_mono (Nat.sub_le Y X)) HP2.out)
          clear HSUM HGE HLT
          go_wp2_with fail
          refine (sub_lt HX3.out HX4.out (by omega)).mono ?_
          rintro _ s6 ⟨rfl, x6⟩
          have e6 : Ext v5 (s6.alloc (.cells #[.slice none 0 0] 25)) := ext_alloc x6 _
          go_upto_region 7 with (fail)
          generalize s6.alloc (.cells #[.slice none 0 0] 25) = v6 at *
          obtain ⟨d3, d4, d5⟩ := HS.out _ e6; obtain ⟨a0, a1, a2, _, _, _⟩ := HA.out _ (Ext.trans f5' e6); obtain ⟨b0, b1, b2, _, _, _⟩ := HB.out _ (Ext.trans f5' e6); obtain ⟨r0, r1, r2, _, _, _⟩ := HR.out _ (Ext.trans f5' e6)
          clear x6
          go_wp2_with fail
          refine (sub_ge (NatV.below HX4.out e6) (NatV.below HX3.out e6) (by omega) (by have := HP2.out; have := HLI.out; omega)).mono ?_
          rintro _ s8 ⟨A8, k8, l8, rfl, h8, x8, _⟩
          have y8 := ext_alloc x8 (.cells #[.slice A8 k8 l8] 25)
          have p8 := CanV.alloc h8 (.cells #[.slice A8 k8 l8] 25)
          have d8 : (s8.alloc (.cells #[.slice A8 k8 l8] 25)).cell? ⟨s8.heap.size, 0, none⟩ = some (.slice A8 k8 l8) := by simp [go_sem]
          have e8 := e6.trans y8
          obtain ⟨d3, d4, d5⟩ := HS.out _ e8; obtain ⟨a0, a1, a2, _, _, _⟩ := HA.out _ (Ext.trans f5' e8); obtain ⟨b0, b1, b2, _, _, _⟩ := HB.out _ (Ext.trans f5' e8); obtain ⟨r0, r1, r2, _, _, _⟩ := HR.out _ (Ext.trans f5' e8)
          clear h8 x8 y8
          go_upto_region 10 with (fail)
          generalize s8.alloc (.cells #[.slice A8 k8 l8] 25) = v8 at *
          generalize s8.heap.size = b8 at *
          go_wp2_with fail
          refine (made_n (CanV.nat p8 (by have := HXY.out; have := HLI.out; unfold Fit; omega)) (NatV.below HX5.out e8) (by have := HXY.out; have := HLI.out; omega) (by have := HP3.out; have := HLI.out; omega)).mono ?_
          rintro _ s7 ⟨b7, A7, k7, l7, B7, m7, o7, rfl, h7, x7, n7, n7'⟩
          have e7 := e8.trans x7
          obtain ⟨d3, d4, d5⟩ := HS.out _ e7; obtain ⟨a0, a1, a2, _, _, _⟩ := HA.out _ (Ext.trans f5' e7); obtain ⟨b0, b1, b2, _, _, _⟩ := HB.out _ (Ext.trans f5' e7); obtain ⟨r0, r1, r2, _, _, _⟩ := HR.out _ (Ext.trans f5' e7)
          go_wp2
          obtain ⟨q0, q1, q2⟩ := set3 r0 r1 r2 (.bool b7) (.slice A7 k7 l7) (.slice B7 m7 o7)
          refine bodyPost_ret (v := .agg #[.bool b7, .slice A7 k7 l7, .slice B7 m7 o7]) (by simp [results, Tryz.results63, go_sem, q0, q1, q2]) rfl ?_
          exact GivesF.box (B := w.heap.size + 1 + 1) (HF5.out.trans e7) (by rw [HV.out]; exact h7) (n7.mono (by have := e8.size; omega)) (n7'.mono (by have := e8.size; omega)) (by omega)

end Go.Proofs.YtbplkienkhinmaaGreatDoor
