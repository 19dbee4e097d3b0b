/- The walk of ConfidenceSets. -/
import Derived.Test.YtjdpkmngboiemaaGreatDoorConL
import Derived.Test.YtjdpkmngboiemaaGreatDoorConR
import Derived.Test.YtjdpkmngboiemaaGreatDoorKeepB
import Derived.Test.YtjdpkmngboiemaaGreatDoorWf
set_option linter.unusedVariables false
set_option linter.unusedSimpArgs false
set_option maxRecDepth 100000
namespace Go.Proofs.YtjdpkmngboiemaaGreatDoor
open Go.RowKit Num

set_option maxHeartbeats 8000000 in
theorem law_CSets {v0 v1 : Value} {z0 : Int × Int × Int} {z1 : FracIn} {w : World} (h0 : v0 = .agg #[.int .i64 z0.1, .int .i64 z0.2.1, .int .i64 z0.2.2] ∧ (Lit.int .i64 z0.1).wf = true ∧ (Lit.int .i64 z0.2.1).wf = true ∧ (Lit.int .i64 z0.2.2).wf = true) (h1 : KFrac w v1 z1) (ht : Tab10 w) :
    Calls Tryz.prog 3 #[v0, v1] w (fun e w' => e = .returned (.bool true) ∧ Ext w w') := by
  obtain ⟨a, b, c⟩ := z0
  obtain ⟨ng, nl, nv, dl, dv⟩ := z1
  obtain ⟨rfl, wa, wb, wc⟩ := h0
  obtain ⟨s, t, rfl, hs, hd⟩ := h1
  have hA := i64_of_wf wa
  have hB := i64_of_wf wb
  have hC := i64_of_wf wc
  clear wa wb wc
  dsimp only at hs hd hA hB hC ⊢
  have HT := Lib.hid (fun (w' : World) (h : Ext w w') => ht.ext h)
  have HSL := Lib.hid (fun (w' : World) (h : Ext w w') => hs.below h)
  have HDL := Lib.hid (fun (w' : World) (h : Ext w w') => hd.below h)
  clear ht
  by_cases hf : nl ≤ 3 ∧ dl ≤ 3
  · have HX := Lib.hid (fun (w' : World) (h : Ext w w') => KFrac.any (z := ⟨ng, nl, nv, dl, dv⟩) (HSL.out _ h) (HDL.out _ h) (L := 3) hf.1 hf.2 (by omega))
    have HFW := Lib.hid hf
    clear hs hd
    dsimp only at HX
    obtain ⟨q, hq⟩ : ∃ q, q = frac ng nv dv := ⟨_, rfl⟩
    rw [← hq] at HX
    clear hq hf
    have HS1 := Lib.hid (fun (w' : World) (h : Ext w w') => kset_any (n := a) (d := b) (m := c) (HX.out _ h) (by omega) (by omega) (HT.out _ h))
    have HS2 := Lib.hid (fun (w' : World) (h : Ext w w') => rset_any (n := a) (d := b) (m := c) (HX.out _ h) (by omega) (by omega) (HT.out _ h))
    have HR1 := Lib.hid (fun (w' : World) (h : Ext w w') => krange_any (n := a) (d := b) (m := c) (HX.out _ h) (by omega) (by omega) (HT.out _ h))
    have HR2 := Lib.hid (fun (w' : World) (h : Ext w w') => rrange_any (n := a) (d := b) (m := c) (HX.out _ h) (by omega) (by omega) (HT.out _ h))
    generalize rngOf (setL a b c q) c (accE a b c q) = R at HR1 HR2
    generalize setL a b c q = l at HS1 HS2
    generalize accE a b c q = er at HS1 HS2
    generalize R.1.1 = R1 at HR1 HR2
    generalize R.1.2 = R2 at HR1 HR2
    generalize R.2.1 = R3 at HR1 HR2
    generalize R.2.2 = R4 at HR1 HR2
    go_enter Tryz.func3, Tryz.ntmps3
    go_upto_region 1 with (fail)
    have hB0 := (FBox.new w (.int .i64 a) (.int .i64 b) (.int .i64 c) 23).below (ext_alloc (Below.refl _ _) (.cells #[.bool ng, s, t] 28))
    have hB1 := FBox.new (w.alloc (.cells #[.int .i64 a, .int .i64 b, .int .i64 c] 23)) (.bool ng) (s) (t) 28
    rw [show (w.alloc (.cells #[.int .i64 a, .int .i64 b, .int .i64 c] 23)).heap.size = w.heap.size + 1 from by simp] at hB1
    have x0 : Ext w ((w.alloc (.cells #[.int .i64 a, .int .i64 b, .int .i64 c] 23)).alloc (.cells #[.bool ng, s, t] 28)) := ext_alloc (ext_alloc (Below.refl _ _) _) _
    have hs0 : w.heap.size + 1 + 1 ≤ ((w.alloc (.cells #[.int .i64 a, .int .i64 b, .int .i64 c] 23)).alloc (.cells #[.bool ng, s, t] 28)).heap.size := by simp
    generalize ((w.alloc (.cells #[.int .i64 a, .int .i64 b, .int .i64 c] 23)).alloc (.cells #[.bool ng, s, t] 28)) = W0 at *
    have HB0 := Lib.hid (fun (w' : World) (h : Ext W0 w') => hB0.below h)
    obtain ⟨c00, c01, c02, d00, d01, d02⟩ := hB0
    have HB1 := Lib.hid (fun (w' : World) (h : Ext W0 w') => hB1.below h)
    obtain ⟨c10, c11, c12, d10, d11, d12⟩ := hB1
    have HE := Lib.hid x0
    clear x0
    have f0 : Ext W0 W0 := Below.refl _ _
    go_wp2_with fail
    refine (kawake (HT.out _ HE.out)).mono ?_
    rintro e U1 ⟨rfl, y1⟩
    obtain ⟨c10, c11, c12, _, _, _⟩ := HB1.out _ y1
    go_wp2_with fail
    refine (lfew_t (HSL.out _ (HE.out.trans y1)) (HDL.out _ (HE.out.trans y1)) HFW.out).mono ?_
    rintro e U2 ⟨rfl, y2⟩
    have y2 := Ext.trans y1 y2
    obtain ⟨c00, c01, c02, _, _, _⟩ := HB0.out _ y2
    obtain ⟨c10, c11, c12, _, _, _⟩ := HB1.out _ y2
    go_wp2_with fail
    refine (HS1.out _ (HE.out.trans y2)).mono ?_
    rintro e U3 ⟨A3, k3, rfl, hI3, y3, _⟩
    have HI3 := Lib.hid (fun (w' : World) (h : Ext U3 w') => hI3.below h)
    have y3 := Ext.trans y2 y3
    clear hI3
    obtain ⟨c00, c01, c02, _, _, _⟩ := HB0.out _ y3
    obtain ⟨c10, c11, c12, _, _, _⟩ := HB1.out _ y3
    go_wp2_with fail
    refine (HS2.out _ (HE.out.trans y3)).mono ?_
    rintro e U4 ⟨A4, k4, rfl, hI4, y4, _⟩
    have HI4 := Lib.hid (fun (w' : World) (h : Ext U4 w') => hI4.below h)
    have HI34 := Lib.hid (fun (w' : World) (h : Ext U4 w') => HI3.out _ (y4.trans h))
    have y4 := Ext.trans y3 y4
    clear hI4
    obtain ⟨c00, c01, c02, _, _, _⟩ := HB0.out _ y4
    obtain ⟨c10, c11, c12, _, _, _⟩ := HB1.out _ y4
    go_wp2_with fail
    refine (HR1.out _ (HE.out.trans y4)).mono ?_
    rintro e U5 ⟨rfl, x5⟩
    have y5 := Ext.trans y4 x5
    obtain ⟨c00, c01, c02, _, _, _⟩ := HB0.out _ y5
    obtain ⟨c10, c11, c12, _, _, _⟩ := HB1.out _ y5
    go_wp2_with fail
    refine (HR2.out _ (HE.out.trans y5)).mono ?_
    rintro e U6 ⟨rfl, x6⟩
    have y6 := Ext.trans y5 x6
    have x7 := Ext.trans x5 x6
    go_wp2_with (go_at_call 13; (with_reducible refine (bints_same (HI34.out _ x7) (HI4.out _ x7)).mono ?_); rintro e U7 ⟨rfl, y7⟩)
    go_ret
    exact ⟨rfl, HE.out.trans (y6.trans y7)⟩
  · clear hs hd
    have HFW := Lib.hid hf
    clear hf
    go_enter Tryz.func3, Tryz.ntmps3
    go_upto_region 1 with (fail)
    have hB0 := (FBox.new w (.int .i64 a) (.int .i64 b) (.int .i64 c) 23).below (ext_alloc (Below.refl _ _) (.cells #[.bool ng, s, t] 28))
    have hB1 := FBox.new (w.alloc (.cells #[.int .i64 a, .int .i64 b, .int .i64 c] 23)) (.bool ng) (s) (t) 28
    rw [show (w.alloc (.cells #[.int .i64 a, .int .i64 b, .int .i64 c] 23)).heap.size = w.heap.size + 1 from by simp] at hB1
    have x0 : Ext w ((w.alloc (.cells #[.int .i64 a, .int .i64 b, .int .i64 c] 23)).alloc (.cells #[.bool ng, s, t] 28)) := ext_alloc (ext_alloc (Below.refl _ _) _) _
    have hs0 : w.heap.size + 1 + 1 ≤ ((w.alloc (.cells #[.int .i64 a, .int .i64 b, .int .i64 c] 23)).alloc (.cells #[.bool ng, s, t] 28)).heap.size := by simp
    generalize ((w.alloc (.cells #[.int .i64 a, .int .i64 b, .int .i64 c] 23)).alloc (.cells #[.bool ng, s, t] 28)) = W0 at *
    have HB0 := Lib.hid (fun (w' : World) (h : Ext W0 w') => hB0.below h)
    obtain ⟨c00, c01, c02, d00, d01, d02⟩ := hB0
    have HB1 := Lib.hid (fun (w' : World) (h : Ext W0 w') => hB1.below h)
    obtain ⟨c10, c11, c12, d10, d11, d12⟩ := hB1
    have HE := Lib.hid x0
    clear x0
    have f0 : Ext W0 W0 := Below.refl _ _
    go_wp2_with fail
    refine (kawake (HT.out _ HE.out)).mono ?_
    rintro e U1 ⟨rfl, y1⟩
    obtain ⟨c10, c11, c12, _, _, _⟩ := HB1.out _ y1
    go_wp2_with fail
    refine (lfew_f (HSL.out _ (HE.out.trans y1)) (HDL.out _ (HE.out.trans y1)) HFW.out).mono ?_
    rintro e U2 ⟨rfl, y2⟩
    have y2 := Ext.trans y1 y2
    go_wp2_with fail
    refine (kawake (HT.out _ (HE.out.trans y2))).mono ?_
    rintro e U3 ⟨rfl, y3⟩
    go_wp2
    go_ret
    exact ⟨rfl, HE.out.trans (y2.trans y3)⟩

end Go.Proofs.YtjdpkmngboiemaaGreatDoor
