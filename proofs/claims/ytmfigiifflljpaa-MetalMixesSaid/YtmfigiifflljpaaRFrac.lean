/- ref02: Norm, Mul. -/
import Derived.Test.YtmfigiifflljpaaRFrac0
import Derived.Deep.RegionLaw
import Derived.Deep.RegionHeld3
set_option linter.unusedVariables false
set_option linter.unusedSimpArgs false
set_option maxRecDepth 100000
namespace Go.Proofs.Ytmfigiifflljpaa
open Go.RowKit Num

set_option maxHeartbeats 2000000 in
theorem rnorm_f {b : Bool} {s t : Value} {q : Rat} {L : Nat} {w : World} (hx : AnyF w b s t q L) (hL : L ≤ 549755813887) :
    Calls Try.prog 29 #[.agg #[.bool b, s, t]] w (GivesF w q) := by
  obtain ⟨n, d, hn, hd, rfl, ln, ld⟩ := hx
  have HL1 := Lib.hid ln
  have HL2 := Lib.hid ld
  clear ln ld
  go_enter Try.func29, Try.ntmps29
  go_upto_region 1 with (fail)
  have hX0 := FBox.new w (.bool b) s t 34
  have hF0 := FBox.new (w.alloc (.cells #[.bool b, s, t] 34)) (.bool false) (.slice none 0 0) (.slice none 0 0) 34
  have hX1 := hX0.below (ext_alloc (Below.refl _ _) (.cells #[.bool false, .slice none 0 0, .slice none 0 0] 34))
  have x0 : Ext w ((w.alloc (.cells #[.bool b, s, t] 34)).alloc (.cells #[.bool false, .slice none 0 0, .slice none 0 0] 34)) := ext_alloc (ext_alloc (Below.refl _ _) _) _
  have hs0 : w.heap.size + 1 + 1 ≤ ((w.alloc (.cells #[.bool b, s, t] 34)).alloc (.cells #[.bool false, .slice none 0 0, .slice none 0 0] 34)).heap.size := by simp
  rw [show (w.alloc (.cells #[.bool b, s, t] 34)).heap.size = w.heap.size + 1 from by simp] at hF0
  clear hX0
  generalize (w.alloc (.cells #[.bool b, s, t] 34)).alloc (.cells #[.bool false, .slice none 0 0, .slice none 0 0] 34) = W0 at *
  have HF := Lib.hid (fun (w' : World) (h : Ext W0 w') => hF0.below h)
  have HE := Lib.hid x0
  obtain ⟨cx0, cx1, cx2, _, _, _⟩ := hX1
  have f0 : Ext W0 W0 := Below.refl _ _
  clear hF0
  have HN := Lib.hid (hn.below x0)
  have HD := Lib.hid (hd.below x0)
  clear x0 hn hd
  go_wp2_with (go_at_call 56; (with_reducible refine (rnew_n HN.out HD.out (by have := HL1.out; omega) (by have := HL2.out; omega)).mono ?_); rintro e s3 ⟨b3, A3, k3, c3, B3, l3, d3, rfl, h3, z3, n3, m3⟩; have f3 : Ext W0 s3 := Ext.trans (by first | ((repeat first | assumption | exact Below.refl _ _ | refine ext_alloc ?_ _ | refine ext_drew ?_ | refine ext_set ?_ (by first | omega | (simp; done) | (simp; omega)) _); done) | fail) z3; obtain ⟨r0, r1, r2, g0, g1, g2⟩ := HF.out _ f3)
  obtain ⟨q0, q1, q2⟩ := set3 r0 r1 r2 (.bool b3) (.slice A3 k3 c3) (.slice B3 l3 d3)
  refine bodyPost_ret (v := .agg #[.bool b3, .slice A3 k3 c3, .slice B3 l3 d3]) (by simp [results, Try.results29, go_sem, q0, q1, q2]) rfl ?_
  exact GivesF.box (B := w.heap.size + 1) (HE.out.trans f3) h3 (n3.mono (by have := f0.size; omega)) (m3.mono (by have := f0.size; omega)) (by omega)

end Go.Proofs.Ytmfigiifflljpaa
namespace Go.Proofs.Ytmfigiifflljpaa
open Go.RowKit Num


set_option maxHeartbeats 4000000 in
theorem rmul_f {b b' : Bool} {s t s' t' : Value} {p q : Rat} {L M : Nat} {w : World} (hx : AnyF w b s t p L) (hy : AnyF w b' s' t' q M) (hL : L + M ≤ 549755813887) :
    Calls Try.prog 63 #[.agg #[.bool b, s, t], .agg #[.bool b', s', t']] w (GivesF w (p * q)) := by
  obtain ⟨n, d, hn, hd, rfl, ln, ld⟩ := hx
  obtain ⟨m, e, hm, he, rfl, lm, le⟩ := hy
  have HL1 := Lib.hid ln
  have HL2 := Lib.hid ld
  have HL3 := Lib.hid lm
  have HL4 := Lib.hid le
  have HLI := Lib.hid hL
  have HQ1 := Lib.hid (limbsOf_length_mul n m)
  have HQ2 := Lib.hid (limbsOf_length_mul d e)
  rw [frac_mul]
  clear ln ld lm le hL
  go_enter Try.func63, Try.ntmps63
  go_upto_region 1 with (fail)
  have hX0 := FBox.new w (.bool b) s t 34
  have hY0 := FBox.new (w.alloc (.cells #[.bool b, s, t] 34)) (.bool b') s' t' 34
  have hF0 := FBox.new ((w.alloc (.cells #[.bool b, s, t] 34)).alloc (.cells #[.bool b', s', t'] 34)) (.bool false) (.slice none 0 0) (.slice none 0 0) 34
  have hX1 := (hX0.below (ext_alloc (Below.refl _ _) (.cells #[.bool b', s', t'] 34))).below (ext_alloc (Below.refl _ _) (.cells #[.bool false, .slice none 0 0, .slice none 0 0] 34))
  have hY1 := hY0.below (ext_alloc (Below.refl _ _) (.cells #[.bool false, .slice none 0 0, .slice none 0 0] 34))
  have x0 : Ext w (((w.alloc (.cells #[.bool b, s, t] 34)).alloc (.cells #[.bool b', s', t'] 34)).alloc (.cells #[.bool false, .slice none 0 0, .slice none 0 0] 34)) := ext_alloc (ext_alloc (ext_alloc (Below.refl _ _) _) _) _
  have hs0 : w.heap.size + 1 + 1 + 1 ≤ (((w.alloc (.cells #[.bool b, s, t] 34)).alloc (.cells #[.bool b', s', t'] 34)).alloc (.cells #[.bool false, .slice none 0 0, .slice none 0 0] 34)).heap.size := by simp
  rw [show (w.alloc (.cells #[.bool b, s, t] 34)).heap.size = w.heap.size + 1 from by simp] at hY1
  rw [show ((w.alloc (.cells #[.bool b, s, t] 34)).alloc (.cells #[.bool b', s', t'] 34)).heap.size = w.heap.size + 1 + 1 from by simp] at hF0
  clear hX0 hY0
  generalize ((w.alloc (.cells #[.bool b, s, t] 34)).alloc (.cells #[.bool b', s', t'] 34)).alloc (.cells #[.bool false, .slice none 0 0, .slice none 0 0] 34) = W0 at *
  have hs1 : w.heap.size + 1 + 1 ≤ W0.heap.size := by omega
  have HX := Lib.hid (fun (w' : World) (h : Below (w.heap.size + 1 + 1) W0 w') => (⟨(h.cell (p := ⟨w.heap.size, 0, none⟩) (by show w.heap.size < _; omega)).trans hX1.1, (h.cell (p := ⟨w.heap.size, 1, none⟩) (by show w.heap.size < _; omega)).trans hX1.2.1, (h.cell (p := ⟨w.heap.size, 2, none⟩) (by show w.heap.size < _; omega)).trans hX1.2.2.1, (h.cell (p := ⟨w.heap.size + 1, 0, none⟩) (by show w.heap.size + 1 < _; omega)).trans hY1.1, (h.cell (p := ⟨w.heap.size + 1, 1, none⟩) (by show w.heap.size + 1 < _; omega)).trans hY1.2.1, (h.cell (p := ⟨w.heap.size + 1, 2, none⟩) (by show w.heap.size + 1 < _; omega)).trans hY1.2.2.1⟩ : w'.cell? ⟨w.heap.size, 0, none⟩ = some (.bool b) ∧ w'.cell? ⟨w.heap.size, 1, none⟩ = some s ∧ w'.cell? ⟨w.heap.size, 2, none⟩ = some t ∧ w'.cell? ⟨w.heap.size + 1, 0, none⟩ = some (.bool b') ∧ w'.cell? ⟨w.heap.size + 1, 1, none⟩ = some s' ∧ w'.cell? ⟨w.heap.size + 1, 2, none⟩ = some t'))
  have HF := Lib.hid (fun (w' : World) (h : Ext W0 w') => hF0.below h)
  have HE := Lib.hid x0
  have f0 : Ext W0 W0 := Below.refl _ _
  have HN := Lib.hid (hn.below x0)
  have HD := Lib.hid (hd.below x0)
  have HM := Lib.hid (hm.below x0)
  have HE2 := Lib.hid (he.below x0)
  clear x0 hX1 hY1 hF0 hn hd hm he
  go_region_held3 (fun w' => w'.cell? ⟨w.heap.size, 0, none⟩ = some (.bool b) ∧ w'.cell? ⟨w.heap.size, 1, none⟩ = some s ∧ w'.cell? ⟨w.heap.size, 2, none⟩ = some t ∧ w'.cell? ⟨w.heap.size + 1, 0, none⟩ = some (.bool b') ∧ w'.cell? ⟨w.heap.size + 1, 1, none⟩ = some s' ∧ w'.cell? ⟨w.heap.size + 1, 2, none⟩ = some t') (first | exact HX.out _ ((((Below.mono f3 hs1).setCell (Nat.le_refl _) _).setCell (Nat.le_refl _) _).setCell (Nat.le_refl _) _) | exact HX.out _ (Below.mono (by first | ((repeat first | assumption | exact Below.refl _ _ | refine ext_alloc ?_ _ | refine ext_drew ?_ | refine ext_set ?_ (by first | omega | (simp; done) | (simp; omega)) _); done) | fail) hs1)) (first
    | (go_at_call 59; (with_reducible refine (rmul_n (NatV.below HN.out (by first | ((repeat first | assumption | exact Below.refl _ _ | refine ext_alloc ?_ _ | refine ext_drew ?_ | refine ext_set ?_ (by first | omega | (simp; done) | (simp; omega)) _); done) | fail)) (NatV.below HM.out (by first | ((repeat first | assumption | exact Below.refl _ _ | refine ext_alloc ?_ _ | refine ext_drew ?_ | refine ext_set ?_ (by first | omega | (simp; done) | (simp; omega)) _); done) | fail)) (by have := HL1.out; have := HL3.out; have := HLI.out; omega)).mono ?_); rintro _ s1 ⟨A1, k1, c1, rfl, h1, z1, _⟩; have f1 : Ext W0 s1 := Ext.trans (by first | ((repeat first | assumption | exact Below.refl _ _ | refine ext_alloc ?_ _ | refine ext_drew ?_ | refine ext_set ?_ (by first | omega | (simp; done) | (simp; omega)) _); done) | fail) z1)
    | (go_at_call 59; (with_reducible refine (rmul_n (NatV.below HD.out (by first | ((repeat first | assumption | exact Below.refl _ _ | refine ext_alloc ?_ _ | refine ext_drew ?_ | refine ext_set ?_ (by first | omega | (simp; done) | (simp; omega)) _); done) | fail)) (NatV.below HE2.out (by first | ((repeat first | assumption | exact Below.refl _ _ | refine ext_alloc ?_ _ | refine ext_drew ?_ | refine ext_set ?_ (by first | omega | (simp; done) | (simp; omega)) _); done) | fail)) (by have := HL2.out; have := HL4.out; have := HLI.out; omega)).mono ?_); rintro _ s2 ⟨A2, k2, c2, rfl, h2, z2, _⟩; have f2 : Ext W0 s2 := Ext.trans (by first | ((repeat first | assumption | exact Below.refl _ _ | refine ext_alloc ?_ _ | refine ext_drew ?_ | refine ext_set ?_ (by first | omega | (simp; done) | (simp; omega)) _); done) | fail) z2)
    | (go_at_call 56; (with_reducible refine (rnew_n (NatV.below (CanV.nat h1 (by have := HQ1.out; have := HL1.out; have := HL3.out; have := HLI.out; unfold Fit; omega)) (by first | ((repeat first | assumption | exact Below.refl _ _ | refine ext_alloc ?_ _ | refine ext_drew ?_ | refine ext_set ?_ (by first | omega | (simp; done) | (simp; omega)) _); done) | fail)) (CanV.nat h2 (by have := HQ2.out; have := HL2.out; have := HL4.out; have := HLI.out; unfold Fit; omega)) (by have := HQ1.out; have := HL1.out; have := HL3.out; have := HLI.out; omega) (by have := HQ2.out; have := HL2.out; have := HL4.out; have := HLI.out; omega)).mono ?_); rintro _ s3 ⟨b3, A3, k3, c3, B3, l3, d3, rfl, h3, z3, n3, m3⟩; have f3 : Ext W0 s3 := Ext.trans (by first | ((repeat first | assumption | exact Below.refl _ _ | refine ext_alloc ?_ _ | refine ext_drew ?_ | refine ext_set ?_ (by first | omega | (simp; done) | (simp; omega)) _); done) | fail) z3; obtain ⟨r0, r1, r2, g0, g1, g2⟩ := HF.out _ f3))
  go_wp2
  obtain ⟨q0, q1, q2⟩ := set3 r0 r1 r2 (.bool b3) (.slice A3 k3 c3) (.slice B3 l3 d3)
  refine bodyPost_ret (v := .agg #[.bool b3, .slice A3 k3 c3, .slice B3 l3 d3]) (by simp [results, Try.results63, go_sem, q0, q1, q2]) rfl ?_
  exact GivesF.box (B := w.heap.size + 1 + 1) (HE.out.trans f3) h3 (n3.mono (by have := f2.size; omega)) (m3.mono (by have := f2.size; omega)) (by omega)

end Go.Proofs.Ytmfigiifflljpaa
