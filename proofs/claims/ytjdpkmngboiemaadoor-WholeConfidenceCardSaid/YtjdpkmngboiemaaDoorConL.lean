/- confidence's law page: few, sample, awake; base.Has. -/
import Derived.Test.YtjdpkmngboiemaaDoorConC
import Derived.Test.YtjdpkmngboiemaaDoorOpn
import Derived.Test.YtjdpkmngboiemaaDoorFracT
set_option linter.unusedVariables false
set_option linter.unusedSimpArgs false
set_option maxRecDepth 100000
namespace Go.Proofs.YtjdpkmngboiemaaDoor
open Go.RowKit Num

theorem lfew {b : Bool} {s t : Value} {nl nv dl dv : Nat} {w : World} (hs : KLimbs w s nl nv) (ht : KLimbs w t dl dv) :
    Calls Tryd.prog 19 #[.agg #[.bool b, s, t]] w (fun e w' => e = .returned (.bool (decide (nl ≤ 3 ∧ dl ≤ 3))) ∧ Ext w w') := by
  obtain ⟨A, c, rfl⟩ := hs.form
  obtain ⟨A', c', rfl⟩ := ht.form
  clear hs ht
  by_cases h1 : nl ≤ 3
  · have e1 : decide ((nl : Int) ≤ 3) = true := decide_eq_true (by omega)
    by_cases h2 : dl ≤ 3
    · have e2 : decide ((dl : Int) ≤ 3) = true := decide_eq_true (by omega)
      rw [show decide (nl ≤ 3 ∧ dl ≤ 3) = true from decide_eq_true ⟨h1, h2⟩]
      go_enter Tryd.func19, Tryd.ntmps19
      go_upto_region 1 with (fail)
      have hB0 := FBox.new w (.bool b) (.slice A nl c) (.slice A' dl c') 27
      have x0 : Ext w (w.alloc (.cells #[.bool b, .slice A nl c, .slice A' dl c'] 27)) := ext_alloc (Below.refl _ _) _
      have hs0 : w.heap.size + 1 ≤ (w.alloc (.cells #[.bool b, .slice A nl c, .slice A' dl c'] 27)).heap.size := by simp
      generalize (w.alloc (.cells #[.bool b, .slice A nl c, .slice A' dl c'] 27)) = W0 at *
      have HB0 := Lib.hid (fun (w' : World) (h : Ext W0 w') => hB0.below h)
      obtain ⟨c00, c01, c02, d00, d01, d02⟩ := hB0
      have HE := Lib.hid x0
      clear x0
      have f0 : Ext W0 W0 := Below.refl _ _
      go_wp2
      go_ret
      exact ⟨rfl, HE.out⟩
    · have e2 : decide ((dl : Int) ≤ 3) = false := decide_eq_false (by omega)
      rw [show decide (nl ≤ 3 ∧ dl ≤ 3) = false from decide_eq_false fun h => h2 h.2]
      go_enter Tryd.func19, Tryd.ntmps19
      go_upto_region 1 with (fail)
      have hB0 := FBox.new w (.bool b) (.slice A nl c) (.slice A' dl c') 27
      have x0 : Ext w (w.alloc (.cells #[.bool b, .slice A nl c, .slice A' dl c'] 27)) := ext_alloc (Below.refl _ _) _
      have hs0 : w.heap.size + 1 ≤ (w.alloc (.cells #[.bool b, .slice A nl c, .slice A' dl c'] 27)).heap.size := by simp
      generalize (w.alloc (.cells #[.bool b, .slice A nl c, .slice A' dl c'] 27)) = W0 at *
      have HB0 := Lib.hid (fun (w' : World) (h : Ext W0 w') => hB0.below h)
      obtain ⟨c00, c01, c02, d00, d01, d02⟩ := hB0
      have HE := Lib.hid x0
      clear x0
      have f0 : Ext W0 W0 := Below.refl _ _
      go_wp2
      go_ret
      exact ⟨rfl, HE.out⟩
  · have e1 : decide ((nl : Int) ≤ 3) = false := decide_eq_false (by omega)
    rw [show decide (nl ≤ 3 ∧ dl ≤ 3) = false from decide_eq_false fun h => h1 h.1]
    go_enter Tryd.func19, Tryd.ntmps19
    go_upto_region 1 with (fail)
    have hB0 := FBox.new w (.bool b) (.slice A nl c) (.slice A' dl c') 27
    have x0 : Ext w (w.alloc (.cells #[.bool b, .slice A nl c, .slice A' dl c'] 27)) := ext_alloc (Below.refl _ _) _
    have hs0 : w.heap.size + 1 ≤ (w.alloc (.cells #[.bool b, .slice A nl c, .slice A' dl c'] 27)).heap.size := by simp
    generalize (w.alloc (.cells #[.bool b, .slice A nl c, .slice A' dl c'] 27)) = W0 at *
    have HB0 := Lib.hid (fun (w' : World) (h : Ext W0 w') => hB0.below h)
    obtain ⟨c00, c01, c02, d00, d01, d02⟩ := hB0
    have HE := Lib.hid x0
    clear x0
    have f0 : Ext W0 W0 := Below.refl _ _
    go_wp2
    go_ret
    exact ⟨rfl, HE.out⟩

theorem lfew_t {b : Bool} {s t : Value} {nl nv dl dv : Nat} {w : World} (hs : KLimbs w s nl nv) (ht : KLimbs w t dl dv) (h : nl ≤ 3 ∧ dl ≤ 3) :
    Calls Tryd.prog 19 #[.agg #[.bool b, s, t]] w (fun e w' => e = .returned (.bool true) ∧ Ext w w') := by
  have h0 := lfew (b := b) hs ht
  rw [decide_eq_true h] at h0
  exact h0
theorem lfew_f {b : Bool} {s t : Value} {nl nv dl dv : Nat} {w : World} (hs : KLimbs w s nl nv) (ht : KLimbs w t dl dv) (h : ¬ (nl ≤ 3 ∧ dl ≤ 3)) :
    Calls Tryd.prog 19 #[.agg #[.bool b, s, t]] w (fun e w' => e = .returned (.bool false) ∧ Ext w w') := by
  have h0 := lfew (b := b) hs ht
  rw [decide_eq_false h] at h0
  exact h0
theorem lin_t {n low high : Int} {w : World} (h1 : low ≤ n) (h2 : n ≤ high) : Calls Tryd.prog 26 #[.int .i64 n, .int .i64 low, .int .i64 high] w (fun e w' => e = .returned (.bool true) ∧ w' = w) := by
  go_enter Tryd.func26, Tryd.ntmps26
  go_wp2
  go_ret
  exact ⟨rfl, rfl⟩
/-- A sample within its limits. -/
def SampIn (N E M : Nat) : Prop := (1 ≤ N ∧ N ≤ 24) ∧ (1 ≤ E ∧ E ≤ N) ∧ (1 ≤ M ∧ M ≤ 60)
theorem SampIn.din {N E M : Nat} (h : SampIn N E M) : DIn N E M := din_of h.1 h.2.1 h.2.2
def GivesS3 (w : World) (e : Ending) (w' : World) : Prop := ∃ N E M : Nat, SampIn N E M ∧ e = .returned (.agg #[.int .i64 N, .int .i64 E, .int .i64 M]) ∧ Ext w w'

theorem FBox.set0 {w : World} {b : Nat} {x y z : Value} (h : FBox w b x y z) (u : Value) : FBox (w.setCell ⟨b, 0, none⟩ u) b u y z := by
  obtain ⟨h0, h1, h2, f0, f1, f2⟩ := h
  exact ⟨World.cell?_setCell_same _ _ _ h0, by rw [World.cell?_setCell_other _ _ _ _ (by simp)]; exact h1, by rw [World.cell?_setCell_other _ _ _ _ (by simp)]; exact h2,
    by rw [World.frozen?_setCell]; exact f0, by rw [World.frozen?_setCell]; exact f1, by rw [World.frozen?_setCell]; exact f2⟩
theorem FBox.set1 {w : World} {b : Nat} {x y z : Value} (h : FBox w b x y z) (u : Value) : FBox (w.setCell ⟨b, 1, none⟩ u) b x u z := by
  obtain ⟨h0, h1, h2, f0, f1, f2⟩ := h
  exact ⟨by rw [World.cell?_setCell_other _ _ _ _ (by simp)]; exact h0, World.cell?_setCell_same _ _ _ h1, by rw [World.cell?_setCell_other _ _ _ _ (by simp)]; exact h2,
    by rw [World.frozen?_setCell]; exact f0, by rw [World.frozen?_setCell]; exact f1, by rw [World.frozen?_setCell]; exact f2⟩
theorem FBox.set2 {w : World} {b : Nat} {x y z : Value} (h : FBox w b x y z) (u : Value) : FBox (w.setCell ⟨b, 2, none⟩ u) b x y u := by
  obtain ⟨h0, h1, h2, f0, f1, f2⟩ := h
  exact ⟨by rw [World.cell?_setCell_other _ _ _ _ (by simp)]; exact h0, by rw [World.cell?_setCell_other _ _ _ _ (by simp)]; exact h1, World.cell?_setCell_same _ _ _ h2,
    by rw [World.frozen?_setCell]; exact f0, by rw [World.frozen?_setCell]; exact f1, by rw [World.frozen?_setCell]; exact f2⟩
theorem FBox.far1 {w : World} {b b' i : Nat} {x y z : Value} (h : FBox w b x y z) (hne : b' ≠ b) (u : Value) : FBox (w.setCell ⟨b', i, none⟩ u) b x y z := by
  obtain ⟨h0, h1, h2, f0, f1, f2⟩ := h
  have ne : ∀ j : Nat, (⟨b', i, none⟩ : Addr) ≠ ⟨b, j, none⟩ := fun j e => by injection e with e1; exact hne e1
  exact ⟨by rw [World.cell?_setCell_other _ _ _ _ (ne 0)]; exact h0, by rw [World.cell?_setCell_other _ _ _ _ (ne 1)]; exact h1, by rw [World.cell?_setCell_other _ _ _ _ (ne 2)]; exact h2,
    by rw [World.frozen?_setCell]; exact f0, by rw [World.frozen?_setCell]; exact f1, by rw [World.frozen?_setCell]; exact f2⟩

set_option maxHeartbeats 4000000 in
theorem lsample {a b c : Int} {w : World} (ha : -9223372036854775808 ≤ a ∧ a ≤ 9223372036854775807) (hb : -9223372036854775808 ≤ b ∧ b ≤ 9223372036854775807) (hc : -9223372036854775808 ≤ c ∧ c ≤ 9223372036854775807) :
    Calls Tryd.prog 20 #[.agg #[.int .i64 a, .int .i64 b, .int .i64 c]] w (GivesS3 w) := by
  go_enter Tryd.func20, Tryd.ntmps20
  go_upto_region 1 with (fail)
  have hB0 := (FBox.new w (.int .i64 a) (.int .i64 b) (.int .i64 c) 42).below (ext_alloc (Below.refl _ _) (.cells #[.int .i64 0, .int .i64 0, .int .i64 0] 42))
  have hB1 := FBox.new (w.alloc (.cells #[.int .i64 a, .int .i64 b, .int .i64 c] 42)) (.int .i64 0) (.int .i64 0) (.int .i64 0) 42
  rw [show (w.alloc (.cells #[.int .i64 a, .int .i64 b, .int .i64 c] 42)).heap.size = w.heap.size + 1 from by simp] at hB1
  have x0 : Ext w ((w.alloc (.cells #[.int .i64 a, .int .i64 b, .int .i64 c] 42)).alloc (.cells #[.int .i64 0, .int .i64 0, .int .i64 0] 42)) := ext_alloc (ext_alloc (Below.refl _ _) _) _
  have hs0 : w.heap.size + 1 + 1 ≤ ((w.alloc (.cells #[.int .i64 a, .int .i64 b, .int .i64 c] 42)).alloc (.cells #[.int .i64 0, .int .i64 0, .int .i64 0] 42)).heap.size := by simp
  generalize ((w.alloc (.cells #[.int .i64 a, .int .i64 b, .int .i64 c] 42)).alloc (.cells #[.int .i64 0, .int .i64 0, .int .i64 0] 42)) = W0 at *
  have HB0 := Lib.hid (fun (w' : World) (h : Ext W0 w') => hB0.below h)
  obtain ⟨c00, c01, c02, d00, d01, d02⟩ := hB0
  have HF := Lib.hid (fun (w' : World) (h : Ext W0 w') => hB1.below h)
  obtain ⟨r0, r1, r2, g0, g1, g2⟩ := hB1
  have HE := Lib.hid x0
  clear x0
  have f0 : Ext W0 W0 := Below.refl _ _
  have hF := HF.out _ f0
  have hB := HB0.out _ f0
  clear r0 r1 r2 g0 g1 g2
  go_wp2_with fail
  refine (mod_i (b := 24) (by omega) (by omega) ha).mono ?_
  rintro e w1 ⟨i, hi, rfl, rfl⟩
  obtain ⟨N, hN⟩ : ∃ N : Nat, N = i + 1 := ⟨_, rfl⟩
  have hw1 : IntKind.i64.wrap (1 + (i : Int)) = (N : Int) := by rw [wrap_in (by omega)]; omega
  have hN1 : 1 ≤ N ∧ N ≤ 24 := by omega
  clear hi hN
  go_upto_region 2 with (fail)
  have hB := hB.set0 (.int .i64 N)
  have hF := hF.far1 (b' := w.heap.size) (i := 0) (by omega) (.int .i64 N)
  have hE := HE.out.setCell (p := ⟨w.heap.size, 0, none⟩) (Nat.le_refl _) (.int .i64 N)
  generalize w1.setCell ⟨w.heap.size, 0, none⟩ (.int .i64 N) = W1 at *
  obtain ⟨c00, c01, c02, d00, d01, d02⟩ := hB
  have hB : FBox W1 _ _ _ _ := ⟨c00, c01, c02, d00, d01, d02⟩
  go_wp2_with fail
  refine (mod_i (b := (N : Int)) (by omega) (by omega) hb).mono ?_
  rintro e w2 ⟨j, hj, rfl, rfl⟩
  obtain ⟨E, hEE⟩ : ∃ E : Nat, E = j + 1 := ⟨_, rfl⟩
  have hw2 : IntKind.i64.wrap (1 + (j : Int)) = (E : Int) := by rw [wrap_in (by omega)]; omega
  have hE1 : 1 ≤ E ∧ E ≤ N := by omega
  clear hj hEE
  go_upto_region 3 with (fail)
  have hB := hB.set1 (.int .i64 E)
  have hF := hF.far1 (b' := w.heap.size) (i := 1) (by omega) (.int .i64 E)
  have hE := hE.setCell (p := ⟨w.heap.size, 1, none⟩) (Nat.le_refl _) (.int .i64 E)
  generalize w2.setCell ⟨w.heap.size, 1, none⟩ (.int .i64 E) = W2 at *
  obtain ⟨c00, c01, c02, d00, d01, d02⟩ := hB
  have hB : FBox W2 _ _ _ _ := ⟨c00, c01, c02, d00, d01, d02⟩
  go_wp2_with fail
  refine (mod_i (b := 60) (by omega) (by omega) hc).mono ?_
  rintro e w3 ⟨k, hk, rfl, rfl⟩
  obtain ⟨M, hM⟩ : ∃ M : Nat, M = k + 1 := ⟨_, rfl⟩
  have hw3 : IntKind.i64.wrap (1 + (k : Int)) = (M : Int) := by rw [wrap_in (by omega)]; omega
  have hM1 : 1 ≤ M ∧ M ≤ 60 := by omega
  clear hk hM
  go_upto_region 4 with (fail)
  have hB := hB.set2 (.int .i64 M)
  have hF := hF.far1 (b' := w.heap.size) (i := 2) (by omega) (.int .i64 M)
  have hE := hE.setCell (p := ⟨w.heap.size, 2, none⟩) (Nat.le_refl _) (.int .i64 M)
  generalize w3.setCell ⟨w.heap.size, 2, none⟩ (.int .i64 M) = W3 at *
  obtain ⟨c00, c01, c02, d00, d01, d02⟩ := hB
  obtain ⟨r0, r1, r2, g0, g1, g2⟩ := hF
  go_wp2
  obtain ⟨q0, q1, q2⟩ := set3 r0 r1 r2 (.int .i64 N) (.int .i64 E) (.int .i64 M)
  refine bodyPost_ret (v := .agg #[.int .i64 N, .int .i64 E, .int .i64 M]) (by simp [results, Tryd.results20, go_sem, q0, q1, q2]) rfl ?_
  exact ⟨N, E, M, ⟨hN1, hE1, hM1⟩, rfl, ext_put hE (by omega) _ _ _⟩

theorem rat3232w {w : World} : Calls Tryd.prog 24 #[.int .i64 3, .int .i64 2, .int .i64 3, .int .i64 2] w (GivesFE w (mkRat 8 9)) := by
  have h := kratio_ok (n := 3) (d := 2) (D := 3) (E := 2) (w := w) (by omega) (by omega) (by omega) (by omega) (show pchI 3 2 2 ≠ 0 by decide +kernel)
  rw [show pchI 3 3 ((2 : Nat) : Int) / pchI 3 2 ((2 : Nat) : Int) = mkRat 8 9 from rat_awake] at h
  exact h.mono fun _ _ h => by
    obtain ⟨A, k, c, A', k', c', rfl, h1, h2, hE, hn, hn'⟩ := h
    exact ⟨_, A, k, c, A', k', c', rfl, ⟨rfl, h1, h2⟩, hE, hn, hn'⟩
theorem m89w : (mkRat 8 9).num = 8 ∧ (mkRat 8 9).den = 9 := by decide
theorem t89w : (ByteArray.mk (ftxt 8 9).toArray) = ⟨#[56, 47, 57]⟩ := by simp [ftxt, Lib.decDigits]
theorem fb89w : FB (mkRat 8 9) 1 := ⟨len_small (by rw [m89w.1]; decide), len_small (by rw [m89w.2]; decide)⟩

set_option maxHeartbeats 8000000 in
theorem kawake {w : World} (ht : Tab10 w) : Calls Tryd.prog 18 #[] w (fun e w' => e = .returned (.bool true) ∧ Ext w w') := by
  have HT := Lib.hid (fun (w' : World) (h : Ext w w') => ht.ext h)
  clear ht
  have HFA := Lib.hid (show FB (((2 : Int) : Rat) / ((5 : Int) : Rat)) 3 from fb_i64 (by omega) (by omega))
  have HFB := Lib.hid (show FB (((1 : Int) : Rat) / ((10 : Int) : Rat)) 3 from fb_i64 (by omega) (by omega))
  go_enter Tryd.func18, Tryd.ntmps18
  go_wp2_with fail
  refine (fof_n (n := 2) (d := 5) (by omega) (by omega)).mono ?_
  rintro _ w1 ⟨b1, A1, k1, c1, B1, l1, d1, rfl, h1, y1, _, _⟩
  have HA := Lib.hid (kaccepts_any (n := 3) (d := 1) (D := 2) (FracV.any h1 HFA.out (by omega)) (by omega) (by omega) (HT.out _ y1))
  rw [accB_awake, accE_awake] at HA
  clear h1
  go_wp2_with fail
  refine HA.out.mono ?_
  rintro _ w2 ⟨rfl, y2⟩
  have y2 : Ext w w2 := y1.trans y2
  go_wp2_with fail
  refine (rat3232w).mono ?_
  rintro e w3 ⟨b3, A3, k3, c3, A3', k3', c3', rfl, h3, y3, n3, n3'⟩
  clear n3 n3'
  go_upto_region 3 with (fail)
  have hG3 := FBox.new w3 (.bool b3) (.slice A3 k3 c3) (.slice A3' k3' c3') 27
  have Y3 : Ext w2 (w3.alloc (.cells #[.bool b3, .slice A3 k3 c3, .slice A3' k3' c3'] 27)) := ext_alloc y3 _
  have h3 := h3.below (ext_alloc (Below.refl _ _) (.cells #[.bool b3, .slice A3 k3 c3, .slice A3' k3' c3'] 27))
  have hsz3 : w3.heap.size < (w3.alloc (.cells #[.bool b3, .slice A3 k3 c3, .slice A3' k3' c3'] 27)).heap.size := by simp
  generalize w3.alloc (.cells #[.bool b3, .slice A3 k3 c3, .slice A3' k3' c3'] 27) = W3 at *
  generalize w3.heap.size = B3 at *
  have HG3 := Lib.hid (fun (w' : World) (h : Ext W3 w') => hG3.below h)
  have HP3 := Lib.hid (fun (w' : World) (h : Ext W3 w') => FracV.any (h3.below h) (fb89w) (by omega))
  have HB3 := Lib.hid (fun (w' : World) (h : Ext W3 w') => h3.below h)
  clear hG3 h3 y3 hsz3
  go_wp2_with fail
  refine (fof_n (n := 1) (d := 10) (by omega) (by omega)).mono ?_
  rintro _ w4 ⟨b4, A4, k4, c4, B4, l4, d4, rfl, h4, y4, _, _⟩
  have HR := Lib.hid (krange_any (n := 2) (d := 2) (m := 60) (FracV.any h4 HFB.out (by omega)) (by omega) (by omega) (HT.out _ (y2.trans (Y3.trans y4))))
  rw [rng_awake] at HR
  clear h4
  go_wp2_with fail
  refine HR.out.mono ?_
  rintro _ w5 ⟨rfl, y5⟩
  have X5 : Ext W3 w5 := y4.trans y5
  obtain ⟨p0, p1, p2, _, _, _⟩ := HG3.out _ X5
  have e89 := t89w
  go_wp2_with (go_at_call 29; (with_reducible refine (ftext_f (n := 8) (d := 9) (HP3.out _ X5) (by omega) (by decide) (by decide) (by decide) (by omega) (by omega) (by omega) (HT.out _ (y2.trans (Y3.trans X5)))).mono ?_); rintro e s1 ⟨rfl, z7⟩; have X6 := X5.trans z7)
  go_ret
  exact ⟨rfl, y2.trans (Y3.trans X6)⟩

theorem lhas {zs : List Int} {A : Option Addr} {c : Nat} {x : Int} {w : World} (hv : IntsV w (.slice A zs.length c) zs) (hn : zs.length ≤ 1000000) :
    Calls Tryd.prog 15 #[.slice A zs.length c, .int .i64 x] w (fun e w' => e = .returned (.bool (decide (x ∈ zs))) ∧ w' = w) := by
  have HV := Lib.hid hv
  clear hv
  go_enter Tryd.func15, Tryd.ntmps15
  go_wp2
  go_loop [5] (fun iv => ∃ k : Nat, (k ≤ zs.length ∧ x ∉ zs.take k) ∧ iv = .int .i64 k) (fun iv => zs.length - (intOf iv).toNat)
  case atStart => exact ⟨0, ⟨Nat.zero_le _, by simp⟩, rfl⟩
  case round =>
    obtain ⟨k, ⟨hk, hu⟩, rfl⟩ := hrel
    by_cases hkn : k < zs.length
    · obtain ⟨b, o, rfl, hb, hc⟩ := HV.out.plC hkn
      have HT := Lib.hid hu
      obtain ⟨y, hy⟩ : ∃ y, y = zs.getD k 0 := ⟨_, rfl⟩
      have hyk : y = zs[k] := by rw [hy, List.getD_eq_getElem?_getD, List.getElem?_eq_getElem hkn]; rfl
      have HY := Lib.hid hyk
      rw [← hy] at hc
      have hi1 : (0 : Int) ≤ (k : Int) := by omega
      have hi2 : (k : Int) < (zs.length : Int) := by omega
      clear hy hyk hu
      by_cases hxy : y = x
      · have HR := Lib.hid (show decide (x ∈ zs) = true from decide_eq_true (by rw [← hxy, HY.out]; exact List.getElem_mem hkn))
        subst hxy
        go_wp2
        go_ret
        exact ⟨by first | rfl | (rw [HR.out]; rfl), rfl⟩
      · have hd : decide (y = x) = false := decide_eq_false hxy
        have hd2 : (y == x) = false := by rw [beq_eq_false_iff_ne]; exact hxy
        go_wp2
        go_round
        case rel => exact ⟨k + 1, ⟨by omega, by
          rw [List.take_add_one, List.getElem?_eq_getElem hkn, List.mem_append]
          intro h
          rcases h with h | h
          · exact HT.out h
          · have h' : x = zs[k] := by simpa using h
            exact hxy (by rw [HY.out, h'])⟩, by go_num⟩
        case measure => simp [intOf]; omega
    · rw [List.take_of_length_le (by omega)] at hu
      have HR := Lib.hid (show decide (x ∈ zs) = false from decide_eq_false hu)
      go_wp2
      go_ret
      exact ⟨by first | rfl | (rw [HR.out]; rfl), rfl⟩

end Go.Proofs.YtjdpkmngboiemaaDoor
