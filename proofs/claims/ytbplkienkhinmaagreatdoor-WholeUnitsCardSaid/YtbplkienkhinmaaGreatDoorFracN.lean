/- fraction: Neg, Sub, Div. -/
import Derived.Test.YtbplkienkhinmaaGreatDoorFracP
set_option linter.unusedVariables false
set_option linter.unusedSimpArgs false
set_option maxRecDepth 100000
namespace Go.Proofs.YtbplkienkhinmaaGreatDoor
open Go.RowKit Num

set_option maxHeartbeats 2000000 in
theorem neg_f {b : Bool} {s t : Value} {q : Rat} {L : Nat} {w : World} (hx : AnyF w b s t q L) (hL : L ≤ 549755813887) :
    Calls Tryz.prog 48 #[.agg #[.bool b, s, t]] w (GivesF w (-q)) := by
  obtain ⟨n, d, hn, hd, rfl, ln, ld⟩ := hx
  have HL1 := Lib.hid ln
  have HL2 := Lib.hid ld
  rw [← frac_not]
  clear ln ld
  go_enter Tryz.func48, Tryz.ntmps48
  go_upto_region 1 with (fail)
  have hB0 := (FBox.new w (.bool b) (s) (t) 27).below (ext_alloc (Below.refl _ _) (.cells #[.bool false, .slice none 0 0, .slice none 0 0] 27))
  have hB1 := FBox.new (w.alloc (.cells #[.bool b, s, t] 27)) (.bool false) (.slice none 0 0) (.slice none 0 0) 27
  rw [show (w.alloc (.cells #[.bool b, s, t] 27)).heap.size = w.heap.size + 1 from by simp] at hB1
  have x0 : Ext w ((w.alloc (.cells #[.bool b, s, t] 27)).alloc (.cells #[.bool false, .slice none 0 0, .slice none 0 0] 27)) := ext_alloc (ext_alloc (Below.refl _ _) _) _
  have hs0 : w.heap.size + 1 + 1 ≤ ((w.alloc (.cells #[.bool b, s, t] 27)).alloc (.cells #[.bool false, .slice none 0 0, .slice none 0 0] 27)).heap.size := by simp
  generalize ((w.alloc (.cells #[.bool b, s, t] 27)).alloc (.cells #[.bool false, .slice none 0 0, .slice none 0 0] 27)) = W0 at *
  have HB0 := Lib.hid (fun (w' : World) (h : Ext W0 w') => hB0.below h)
  obtain ⟨c00, c01, c02, d00, d01, d02⟩ := hB0
  have HF := Lib.hid (fun (w' : World) (h : Ext W0 w') => hB1.below h)
  obtain ⟨r0, r1, r2, g0, g1, g2⟩ := hB1
  have HE := Lib.hid x0
  clear x0
  have f0 : Ext W0 W0 := Below.refl _ _
  have HN := Lib.hid (hn.below HE.out)
  have HD := Lib.hid (hd.below HE.out)
  clear hn hd
  go_wp2_with (go_at_call 30; (with_reducible refine (made_n (b := !b) HN.out HD.out (by have := HL1.out; omega) (by have := HL2.out; omega)).mono ?_); rintro e s3 ⟨b3, A3, k3, c3, B3, l3, d3, rfl, h3, z3, n3, m3⟩; have f3 : Ext W0 s3 := Ext.trans (by first | ((repeat first | assumption | exact Below.refl _ _ | refine ext_alloc ?_ _ | refine ext_drew ?_ | refine ext_set ?_ (by first | omega | (simp; done) | (simp; omega)) _); done) | fail) z3; obtain ⟨r0, r1, r2, g0, g1, g2⟩ := HF.out _ f3)
  obtain ⟨q0, q1, q2⟩ := set3 r0 r1 r2 (.bool b3) (.slice A3 k3 c3) (.slice B3 l3 d3)
  refine bodyPost_ret (v := .agg #[.bool b3, .slice A3 k3 c3, .slice B3 l3 d3]) (by simp [results, Tryz.results48, go_sem, q0, q1, q2]) rfl ?_
  exact GivesF.box (B := w.heap.size + 1) (HE.out.trans f3) h3 (n3.mono (by have := f0.size; omega)) (m3.mono (by have := f0.size; omega)) (by omega)

set_option maxHeartbeats 4000000 in
theorem sub_f {b b' : Bool} {s t s' t' : Value} {p q : Rat} {L M : Nat} {w : World} (hx : AnyF w b s t p L) (hy : AnyF w b' s' t' q M) (fp : FB p L) (fq : FB q M) (hL : L + M ≤ 549755813000) :
    Calls Tryz.prog 46 #[.agg #[.bool b, s, t], .agg #[.bool b', s', t']] w (GivesF w (p - q)) := by
  have HLI := Lib.hid hL
  have HFP := Lib.hid fp
  have HFQ := Lib.hid (FB.neg fq)
  rw [Rat.sub_eq_add_neg]
  clear hL fp fq
  go_enter Tryz.func46, Tryz.ntmps46
  go_upto_region 1 with (fail)
  have hB0 := ((FBox.new w (.bool b) (s) (t) 27).below (ext_alloc (Below.refl _ _) (.cells #[.bool b', s', t'] 27))).below (ext_alloc (Below.refl _ _) (.cells #[.bool false, .slice none 0 0, .slice none 0 0] 27))
  have hB1 := (FBox.new (w.alloc (.cells #[.bool b, s, t] 27)) (.bool b') (s') (t') 27).below (ext_alloc (Below.refl _ _) (.cells #[.bool false, .slice none 0 0, .slice none 0 0] 27))
  rw [show (w.alloc (.cells #[.bool b, s, t] 27)).heap.size = w.heap.size + 1 from by simp] at hB1
  have hB2 := FBox.new ((w.alloc (.cells #[.bool b, s, t] 27)).alloc (.cells #[.bool b', s', t'] 27)) (.bool false) (.slice none 0 0) (.slice none 0 0) 27
  rw [show ((w.alloc (.cells #[.bool b, s, t] 27)).alloc (.cells #[.bool b', s', t'] 27)).heap.size = w.heap.size + 1 + 1 from by simp] at hB2
  have x0 : Ext w (((w.alloc (.cells #[.bool b, s, t] 27)).alloc (.cells #[.bool b', s', t'] 27)).alloc (.cells #[.bool false, .slice none 0 0, .slice none 0 0] 27)) := ext_alloc (ext_alloc (ext_alloc (Below.refl _ _) _) _) _
  have hs0 : w.heap.size + 1 + 1 + 1 ≤ (((w.alloc (.cells #[.bool b, s, t] 27)).alloc (.cells #[.bool b', s', t'] 27)).alloc (.cells #[.bool false, .slice none 0 0, .slice none 0 0] 27)).heap.size := by simp
  generalize (((w.alloc (.cells #[.bool b, s, t] 27)).alloc (.cells #[.bool b', s', t'] 27)).alloc (.cells #[.bool false, .slice none 0 0, .slice none 0 0] 27)) = W0 at *
  have HB0 := Lib.hid (fun (w' : World) (h : Ext W0 w') => hB0.below h)
  obtain ⟨c00, c01, c02, d00, d01, d02⟩ := hB0
  have HB1 := Lib.hid (fun (w' : World) (h : Ext W0 w') => hB1.below h)
  obtain ⟨c10, c11, c12, d10, d11, d12⟩ := hB1
  have HF := Lib.hid (fun (w' : World) (h : Ext W0 w') => hB2.below h)
  obtain ⟨r0, r1, r2, g0, g1, g2⟩ := hB2
  have HE := Lib.hid x0
  clear x0
  have f0 : Ext W0 W0 := Below.refl _ _
  have HX := Lib.hid (hx.below HE.out)
  have HY := Lib.hid (hy.below HE.out)
  have HC := Lib.hid (fun (w' : World) (h : Ext W0 w') => (⟨(HB0.out _ h).1, (HB0.out _ h).2.1, (HB0.out _ h).2.2.1, (HB1.out _ h).1, (HB1.out _ h).2.1, (HB1.out _ h).2.2.1⟩ : w'.cell? ⟨w.heap.size, 0, none⟩ = some (.bool b) ∧ w'.cell? ⟨w.heap.size, 1, none⟩ = some s ∧ w'.cell? ⟨w.heap.size, 2, none⟩ = some t ∧ w'.cell? ⟨w.heap.size + 1, 0, none⟩ = some (.bool b') ∧ w'.cell? ⟨w.heap.size + 1, 1, none⟩ = some s' ∧ w'.cell? ⟨w.heap.size + 1, 2, none⟩ = some t'))
  have HCA := Lib.hid (fun (w' : World) (h : Ext W0 w') (x y z : Value) => (fun (k : FBox _ _ _ _ _) (l : FBox _ _ _ _ _) => (⟨k.1, k.2.1, k.2.2.1, l.1, l.2.1, l.2.2.1⟩ : _ ∧ _ ∧ _ ∧ _ ∧ _ ∧ _)) (FBox.away (b' := w.heap.size + 1 + 1) (HB0.out _ h) (by omega) x y z) (FBox.away (b' := w.heap.size + 1 + 1) (HB1.out _ h) (by omega) x y z))
  clear hx hy
  first
    | (go_region_held3 (fun w' => w'.cell? ⟨w.heap.size, 0, none⟩ = some (.bool b) ∧ w'.cell? ⟨w.heap.size, 1, none⟩ = some s ∧ w'.cell? ⟨w.heap.size, 2, none⟩ = some t ∧ w'.cell? ⟨w.heap.size + 1, 0, none⟩ = some (.bool b') ∧ w'.cell? ⟨w.heap.size + 1, 1, none⟩ = some s' ∧ w'.cell? ⟨w.heap.size + 1, 2, none⟩ = some t') (first | exact HC.out _ (by first | ((repeat first | assumption | exact Below.refl _ _ | refine ext_alloc ?_ _ | refine ext_drew ?_ | refine ext_set ?_ (by first | omega | (simp; done) | (simp; omega)) _); done) | fail) | exact HCA.out _ f3 _ _ _)
        (first
          | (go_at_call 48; (with_reducible refine (neg_f (HY.out.below (by first | ((repeat first | assumption | exact Below.refl _ _ | refine ext_alloc ?_ _ | refine ext_drew ?_ | refine ext_set ?_ (by first | omega | (simp; done) | (simp; omega)) _); done) | fail)) (by have := HLI.out; omega)).mono ?_); rintro _ s2 ⟨b2, A2, k2, c2, B2, l2, d2, rfl, h2, z2, _⟩; have f2 : Ext W0 s2 := Ext.trans (by first | ((repeat first | assumption | exact Below.refl _ _ | refine ext_alloc ?_ _ | refine ext_drew ?_ | refine ext_set ?_ (by first | omega | (simp; done) | (simp; omega)) _); done) | fail) z2)
          | (go_at_call 63; (with_reducible refine (add_f (HX.out.below (by first | ((repeat first | assumption | exact Below.refl _ _ | refine ext_alloc ?_ _ | refine ext_drew ?_ | refine ext_set ?_ (by first | omega | (simp; done) | (simp; omega)) _); done) | fail)) (FracV.any h2 HFQ.out (by have := HLI.out; omega)) HFP.out HFQ.out HLI.out).mono ?_); rintro _ s3 ⟨b3, A3, k3, c3, B3, l3, d3, rfl, h3, z3, n3, m3⟩; have f3 : Ext W0 s3 := Ext.trans (by first | ((repeat first | assumption | exact Below.refl _ _ | refine ext_alloc ?_ _ | refine ext_drew ?_ | refine ext_set ?_ (by first | omega | (simp; done) | (simp; omega)) _); done) | fail) z3; obtain ⟨r0, r1, r2, g0, g1, g2⟩ := HF.out _ f3)))
    | go_wp2_with (first
          | (go_at_call 48; (with_reducible refine (neg_f (HY.out.below (by first | ((repeat first | assumption | exact Below.refl _ _ | refine ext_alloc ?_ _ | refine ext_drew ?_ | refine ext_set ?_ (by first | omega | (simp; done) | (simp; omega)) _); done) | fail)) (by have := HLI.out; omega)).mono ?_); rintro _ s2 ⟨b2, A2, k2, c2, B2, l2, d2, rfl, h2, z2, _⟩; have f2 : Ext W0 s2 := Ext.trans (by first | ((repeat first | assumption | exact Below.refl _ _ | refine ext_alloc ?_ _ | refine ext_drew ?_ | refine ext_set ?_ (by first | omega | (simp; done) | (simp; omega)) _); done) | fail) z2; obtain ⟨c00, c01, c02, _, _, _⟩ := HB0.out _ f2)
          | (go_at_call 63; (with_reducible refine (add_f (HX.out.below (by first | ((repeat first | assumption | exact Below.refl _ _ | refine ext_alloc ?_ _ | refine ext_drew ?_ | refine ext_set ?_ (by first | omega | (simp; done) | (simp; omega)) _); done) | fail)) (FracV.any h2 HFQ.out (by have := HLI.out; omega)) HFP.out HFQ.out HLI.out).mono ?_); rintro _ s3 ⟨b3, A3, k3, c3, B3, l3, d3, rfl, h3, z3, n3, m3⟩; have f3 : Ext W0 s3 := Ext.trans (by first | ((repeat first | assumption | exact Below.refl _ _ | refine ext_alloc ?_ _ | refine ext_drew ?_ | refine ext_set ?_ (by first | omega | (simp; done) | (simp; omega)) _); done) | fail) z3; obtain ⟨r0, r1, r2, g0, g1, g2⟩ := HF.out _ f3))
  all_goals go_wp2
  all_goals
    obtain ⟨q0, q1, q2⟩ := set3 r0 r1 r2 (.bool b3) (.slice A3 k3 c3) (.slice B3 l3 d3)
    refine bodyPost_ret (v := .agg #[.bool b3, .slice A3 k3 c3, .slice B3 l3 d3]) (by simp [results, Tryz.results46, go_sem, q0, q1, q2]) rfl ?_
    exact GivesF.box (B := w.heap.size + 1 + 1) (HE.out.trans f3) h3 (n3.mono (by have := f2.size; omega)) (m3.mono (by have := f2.size; omega)) (by omega)

end Go.Proofs.YtbplkienkhinmaaGreatDoor
