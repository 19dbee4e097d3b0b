/- estimator: Frequencies, Index, Coverage, Good, Carter. -/
import Derived.Test.YtkjcbfaimonaoaaDoorEstR
import Derived.Test.YtkjcbfaimonaoaaDoorFracS
import Derived.Deep.RegionHeld3
import Derived.Deep.RegionLaw
set_option linter.unusedVariables false
set_option linter.unusedSimpArgs false
set_option maxRecDepth 100000
namespace Go.Proofs.YtkjcbfaimonaoaaDoor
open Go.RowKit Num

theorem read_ok {zs : List Int} {x : Value} {w : World} (hx : IntsV w x zs) (hs : Samp zs) : Calls Tryd.prog 39 #[x] w (GivesSm w zs) :=
  (read_go hx hs.1.1 hs.1.2).mono fun e w' h => by
    rcases h with ⟨_, h⟩ | ⟨h, _⟩
    · exact h
    · exact absurd hs h
theorem read_no {zs : List Int} {x : Value} {w : World} (hx : IntsV w x zs) (hs : ¬ Samp zs) : Calls Tryd.prog 39 #[x] w (GivesNo w) := by
  by_cases hl : 1 ≤ zs.length ∧ zs.length ≤ 64
  · exact (read_go hx hl.1 hl.2).mono fun e w' h => by
      rcases h with ⟨h, _⟩ | ⟨_, h⟩
      · exact absurd h hs
      · exact h
  · obtain ⟨A, c, rfl, _⟩ := hx
    exact read_long (by omega)
theorem freqs_length (zs : List Int) : (freqs zs).length = mostOf zs := frq_length _ _ _

theorem efreq_ok {zs : List Int} {x : Value} {w : World} (hx : IntsV w x zs) (hs : Samp zs) : Calls Tryd.prog 14 #[x] w (GivesI w (freqs zs) 0) := by
  go_enter Tryd.func14, Tryd.ntmps14
  go_wp2_with (go_at_call 39; (with_reducible refine (read_ok hx hs).mono ?_); rintro e w1 ⟨A1, c1, rfl, h1, x1, n1⟩)
  go_ret2
  refine ⟨A1, c1, by rw [freqs_length]; rfl, ?_, ext_alloc x1 _, ?_⟩
  · rw [freqs_length]; exact h1.below (ext_alloc (Below.refl _ _) _)
  · rw [freqs_length]; exact n1
theorem efreq_no {zs : List Int} {x : Value} {w : World} (hx : IntsV w x zs) (hs : ¬ Samp zs) : Calls Tryd.prog 14 #[x] w (GivesI w [] 1) := by
  go_enter Tryd.func14, Tryd.ntmps14
  go_wp2_with (go_at_call 39; (with_reducible refine (read_no hx hs).mono ?_); rintro e w1 ⟨rfl, x1⟩)
  go_ret2
  exact GivesI.none_ (ext_alloc x1 _)

/-- What a function that answers (Fraction, Errno) gives. -/
def GivesFE (w : World) (q : Rat) (e : Ending) (w' : World) : Prop :=
  ∃ b A k c A' k' c', e = .returned (.tuple #[.agg #[.bool b, .slice A k c, .slice A' k' c'], .int .i64 0]) ∧ FracV w' b (.slice A k c) (.slice A' k' c') q ∧ Ext w w' ∧ New w.heap.size (.slice A k c) ∧ New w.heap.size (.slice A' k' c')
def GivesFN (w : World) (er : Int) (e : Ending) (w' : World) : Prop :=
  e = .returned (.tuple #[.agg #[.bool false, .slice none 0 0, .slice none 0 0], .int .i64 er]) ∧ Ext w w'
theorem GivesFE.box {w w1 : World} {b : Bool} {A A' : Option Addr} {k c k' c' B : Nat} {q : Rat} {p0 p1 p2 : Value} (hE : Ext w w1) (h : FracV w1 b (.slice A k c) (.slice A' k' c') q) (hn : New (B + 1) (.slice A k c)) (hn' : New (B + 1) (.slice A' k' c')) (hB : w.heap.size ≤ B) :
    GivesFE w q (.returned (.tuple #[.agg #[.bool b, .slice A k c, .slice A' k' c'], .int .i64 0])) (((w1.setCell ⟨B, 0, none⟩ p0).setCell ⟨B, 1, none⟩ p1).setCell ⟨B, 2, none⟩ p2) := by
  obtain ⟨_, _, _, _, _, _, _, e, h1, h2, h3, h4⟩ := GivesF.box (p0 := p0) (p1 := p1) (p2 := p2) hE h hn hn' hB
  injection e with e
  injection e with e
  simp only [Array.mk.injEq, List.cons.injEq, Value.bool.injEq, Value.slice.injEq, and_true] at e
  obtain ⟨rfl, ⟨rfl, rfl, rfl⟩, rfl, rfl, rfl⟩ := e
  exact ⟨_, _, _, _, _, _, _, rfl, h1, h2, h3, h4⟩

set_option maxHeartbeats 2000000 in
theorem eindex_ok {zs : List Int} {x : Value} {w : World} (hx : IntsV w x zs) (hs : Samp zs) : Calls Tryd.prog 16 #[x] w (GivesFE w ((zs.sum : Rat) / (((zs.length : Nat) : Int) : Rat))) := by
  have HS := Lib.hid hs
  have HB := Lib.hid (show (0 : Int) ≤ zs.sum ∧ zs.sum ≤ 64 from by
    have := sumUp_le (Nat.le_refl _) hs.2.1
    rw [sumUp_all] at this
    exact ⟨by omega, hs.2.2⟩)
  have HL := Lib.hid hs.1
  go_enter Tryd.func16, Tryd.ntmps16
  go_upto_region 1 with (fail)
  have hF0 := FBox.new w (.bool false) (.slice none 0 0) (.slice none 0 0) 32
  have x0 : Ext w (w.alloc (.cells #[.bool false, .slice none 0 0, .slice none 0 0] 32)) := ext_alloc (Below.refl _ _) _
  have hX := hx.below x0
  have hs0 : w.heap.size + 1 ≤ (w.alloc (.cells #[.bool false, .slice none 0 0, .slice none 0 0] 32)).heap.size := by simp
  generalize w.alloc (.cells #[.bool false, .slice none 0 0, .slice none 0 0] 32) = W0 at *
  have HF := Lib.hid (fun (w' : World) (h : Ext W0 w') => hF0.below h)
  clear hF0 hs
  go_upto_region 2 with (go_at_call 39; (with_reducible refine (read_ok hX HS.out).mono ?_); rintro e w1 ⟨A1, c1, rfl, h1, x1, n1⟩)
  have hB0 := FBox.new w1 (.int .i64 zs.sum) (.int .i64 zs.length) (.slice A1 (mostOf zs) c1) 52
  have x2 : Ext W0 (w1.alloc (.cells #[.int .i64 zs.sum, .int .i64 zs.length, .slice A1 (mostOf zs) c1] 52)) := ext_alloc x1 _
  generalize w1.alloc (.cells #[.int .i64 zs.sum, .int .i64 zs.length, .slice A1 (mostOf zs) c1] 52) = W1 at *
  generalize w1.heap.size = B at *
  obtain ⟨r0, r1, r2, g0, g1, g2⟩ := HF.out _ x2
  obtain ⟨b0, b1, b2, _, _, _⟩ := hB0
  go_wp2_with (go_at_call 26; (with_reducible refine (fof_n (n := zs.sum) (d := (zs.length : Int)) (by have := HB.out; omega) (by have := HL.out; omega)).mono ?_); rintro e s3 ⟨b3, A3, k3, c3, B3, l3, d3, rfl, h3, z3, n3, m3⟩; obtain ⟨r0, r1, r2, g0, g1, g2⟩ := HF.out _ (x2.trans z3))
  obtain ⟨q0, q1, q2⟩ := set3 r0 r1 r2 (.bool b3) (.slice A3 k3 c3) (.slice B3 l3 d3)
  refine bodyPost_ret (v := .tuple #[.agg #[.bool b3, .slice A3 k3 c3, .slice B3 l3 d3], .int .i64 0]) (by simp [results, Tryd.results16, go_sem, q0, q1, q2]) rfl ?_
  exact GivesFE.box (x0.trans (x2.trans z3)) h3 (n3.mono (by have := x2.size; omega)) (m3.mono (by have := x2.size; omega)) (Nat.le_refl _)

set_option maxHeartbeats 1000000 in
theorem eindex_no {zs : List Int} {x : Value} {w : World} (hx : IntsV w x zs) (hs : ¬ Samp zs) : Calls Tryd.prog 16 #[x] w (GivesFN w 1) := by
  go_enter Tryd.func16, Tryd.ntmps16
  go_upto_region 1 with (fail)
  have hF0 := FBox.new w (.bool false) (.slice none 0 0) (.slice none 0 0) 32
  have x0 : Ext w (w.alloc (.cells #[.bool false, .slice none 0 0, .slice none 0 0] 32)) := ext_alloc (Below.refl _ _) _
  have hX := hx.below x0
  generalize w.alloc (.cells #[.bool false, .slice none 0 0, .slice none 0 0] 32) = W0 at *
  have HF := Lib.hid (fun (w' : World) (h : Ext W0 w') => hF0.below h)
  clear hF0
  go_upto_region 2 with (go_at_call 39; (with_reducible refine (read_no hX hs).mono ?_); rintro e w1 ⟨rfl, x1⟩)
  have x2 : Ext W0 (w1.alloc smz) := ext_alloc x1 _
  generalize w1.alloc (.cells #[.int .i64 0, .int .i64 0, .slice none 0 0] 52) = W1 at *
  generalize w1.heap.size = B at *
  obtain ⟨r0, r1, r2, g0, g1, g2⟩ := HF.out _ x2
  go_wp2
  obtain ⟨q0, q1, q2⟩ := set3 r0 r1 r2 (.bool false) (.slice none 0 0) (.slice none 0 0)
  refine bodyPost_ret (v := .tuple #[.agg #[.bool false, .slice none 0 0, .slice none 0 0], .int .i64 1]) (by simp [results, Tryd.results16, go_sem, q0, q1, q2]) rfl ?_
  exact ⟨rfl, ext_put (x0.trans x2) (Nat.le_refl _) _ _ _⟩

set_option maxHeartbeats 1000000 in
theorem ecov_no {zs : List Int} {x : Value} {w : World} (hx : IntsV w x zs) (hs : ¬ Samp zs) : Calls Tryd.prog 20 #[x] w (GivesFN w 1) := by
  go_enter Tryd.func20, Tryd.ntmps20
  go_upto_region 1 with (fail)
  have hF0 := FBox.new w (.bool false) (.slice none 0 0) (.slice none 0 0) 32
  have x0 : Ext w (w.alloc (.cells #[.bool false, .slice none 0 0, .slice none 0 0] 32)) := ext_alloc (Below.refl _ _) _
  have hX := hx.below x0
  generalize w.alloc (.cells #[.bool false, .slice none 0 0, .slice none 0 0] 32) = W0 at *
  have HF := Lib.hid (fun (w' : World) (h : Ext W0 w') => hF0.below h)
  clear hF0
  go_upto_region 2 with (go_at_call 39; (with_reducible refine (read_no hX hs).mono ?_); rintro e w1 ⟨rfl, x1⟩)
  have x2 : Ext W0 (w1.alloc smz) := ext_alloc x1 _
  generalize w1.alloc (.cells #[.int .i64 0, .int .i64 0, .slice none 0 0] 52) = W1 at *
  generalize w1.heap.size = B at *
  obtain ⟨r0, r1, r2, g0, g1, g2⟩ := HF.out _ x2
  go_wp2
  obtain ⟨q0, q1, q2⟩ := set3 r0 r1 r2 (.bool false) (.slice none 0 0) (.slice none 0 0)
  refine bodyPost_ret (v := .tuple #[.agg #[.bool false, .slice none 0 0, .slice none 0 0], .int .i64 1]) (by simp [results, Tryd.results20, go_sem, q0, q1, q2]) rfl ?_
  exact ⟨rfl, ext_put (x0.trans x2) (Nat.le_refl _) _ _ _⟩

set_option maxHeartbeats 1000000 in
theorem egood_no {zs : List Int} {x : Value} {w : World} (hx : IntsV w x zs) (hs : ¬ Samp zs) : Calls Tryd.prog 22 #[x] w (GivesFN w 1) := by
  go_enter Tryd.func22, Tryd.ntmps22
  go_upto_region 1 with (fail)
  have hF0 := FBox.new w (.bool false) (.slice none 0 0) (.slice none 0 0) 32
  have x0 : Ext w (w.alloc (.cells #[.bool false, .slice none 0 0, .slice none 0 0] 32)) := ext_alloc (Below.refl _ _) _
  have hX := hx.below x0
  generalize w.alloc (.cells #[.bool false, .slice none 0 0, .slice none 0 0] 32) = W0 at *
  have HF := Lib.hid (fun (w' : World) (h : Ext W0 w') => hF0.below h)
  clear hF0
  go_upto_region 2 with (go_at_call 39; (with_reducible refine (read_no hX hs).mono ?_); rintro e w1 ⟨rfl, x1⟩)
  have x2 : Ext W0 (w1.alloc smz) := ext_alloc x1 _
  generalize w1.alloc (.cells #[.int .i64 0, .int .i64 0, .slice none 0 0] 52) = W1 at *
  generalize w1.heap.size = B at *
  obtain ⟨r0, r1, r2, g0, g1, g2⟩ := HF.out _ x2
  go_wp2
  obtain ⟨q0, q1, q2⟩ := set3 r0 r1 r2 (.bool false) (.slice none 0 0) (.slice none 0 0)
  refine bodyPost_ret (v := .tuple #[.agg #[.bool false, .slice none 0 0, .slice none 0 0], .int .i64 1]) (by simp [results, Tryd.results22, go_sem, q0, q1, q2]) rfl ?_
  exact ⟨rfl, ext_put (x0.trans x2) (Nat.le_refl _) _ _ _⟩

set_option maxHeartbeats 1000000 in
theorem ecart_no {zs : List Int} {x : Value} {w : World} (hx : IntsV w x zs) (hs : ¬ Samp zs) : Calls Tryd.prog 32 #[x] w (GivesFN w 1) := by
  go_enter Tryd.func32, Tryd.ntmps32
  go_upto_region 1 with (fail)
  have hF0 := FBox.new w (.bool false) (.slice none 0 0) (.slice none 0 0) 32
  have x0 : Ext w (w.alloc (.cells #[.bool false, .slice none 0 0, .slice none 0 0] 32)) := ext_alloc (Below.refl _ _) _
  have hX := hx.below x0
  generalize w.alloc (.cells #[.bool false, .slice none 0 0, .slice none 0 0] 32) = W0 at *
  have HF := Lib.hid (fun (w' : World) (h : Ext W0 w') => hF0.below h)
  clear hF0
  go_upto_region 2 with (go_at_call 39; (with_reducible refine (read_no hX hs).mono ?_); rintro e w1 ⟨rfl, x1⟩)
  have x2 : Ext W0 (w1.alloc smz) := ext_alloc x1 _
  generalize w1.alloc (.cells #[.int .i64 0, .int .i64 0, .slice none 0 0] 52) = W1 at *
  generalize w1.heap.size = B at *
  obtain ⟨r0, r1, r2, g0, g1, g2⟩ := HF.out _ x2
  go_wp2
  obtain ⟨q0, q1, q2⟩ := set3 r0 r1 r2 (.bool false) (.slice none 0 0) (.slice none 0 0)
  refine bodyPost_ret (v := .tuple #[.agg #[.bool false, .slice none 0 0, .slice none 0 0], .int .i64 1]) (by simp [results, Tryd.results32, go_sem, q0, q1, q2]) rfl ?_
  exact ⟨rfl, ext_put (x0.trans x2) (Nat.le_refl _) _ _ _⟩

/-- Carter's approximation: numerator and denominator. -/
def carN (n d : Int) : Int := 1000 * n * d
def carD (n d : Int) : Int := if n < 2 * d then 1214 * n - 1197 * d else if n < 3 * d then 1124 * n - 1016 * d else 1069 * n - 843 * d

set_option maxHeartbeats 2000000 in
theorem ecart_ok {zs : List Int} {x : Value} {w : World} (hx : IntsV w x zs) (hs : Samp zs) : Calls Tryd.prog 32 #[x] w (GivesFE w ((carN zs.sum zs.length : Rat) / (carD zs.sum zs.length : Rat))) := by
  have HS := Lib.hid hs
  have hB9 : (0 : Int) ≤ zs.sum ∧ zs.sum ≤ 64 := by
    have := sumUp_le (Nat.le_refl _) hs.2.1
    rw [sumUp_all] at this
    exact ⟨by omega, hs.2.2⟩
  have hL9 := hs.1
  go_enter Tryd.func32, Tryd.ntmps32
  go_upto_region 1 with (fail)
  have hF0 := FBox.new w (.bool false) (.slice none 0 0) (.slice none 0 0) 32
  have x0 : Ext w (w.alloc (.cells #[.bool false, .slice none 0 0, .slice none 0 0] 32)) := ext_alloc (Below.refl _ _) _
  have hX := hx.below x0
  have hs0 : w.heap.size + 1 ≤ (w.alloc (.cells #[.bool false, .slice none 0 0, .slice none 0 0] 32)).heap.size := by simp
  generalize w.alloc (.cells #[.bool false, .slice none 0 0, .slice none 0 0] 32) = W0 at *
  have HF := Lib.hid (fun (w' : World) (h : Ext W0 w') => hF0.below h)
  clear hF0 hs
  go_upto_region 2 with (go_at_call 39; (with_reducible refine (read_ok hX HS.out).mono ?_); rintro e w1 ⟨A1, c1, rfl, h1, x1, n1⟩)
  have hB0 := FBox.new w1 (.int .i64 zs.sum) (.int .i64 zs.length) (.slice A1 (mostOf zs) c1) 52
  have x2 : Ext W0 (w1.alloc (.cells #[.int .i64 zs.sum, .int .i64 zs.length, .slice A1 (mostOf zs) c1] 52)) := ext_alloc x1 _
  have hI := h1.below (ext_alloc (Below.refl _ _) (.cells #[.int .i64 zs.sum, .int .i64 zs.length, .slice A1 (mostOf zs) c1] 52))
  generalize w1.alloc (.cells #[.int .i64 zs.sum, .int .i64 zs.length, .slice A1 (mostOf zs) c1] 52) = W1 at *
  generalize w1.heap.size = B at *
  clear h1
  obtain ⟨r0, r1, r2, g0, g1, g2⟩ := HF.out _ x2
  obtain ⟨b0, b1, b2, _, _, _⟩ := hB0
  have hw1 : IntKind.i64.wrap (2 * (zs.length : Int)) = 2 * (zs.length : Int) := wrap_in (by omega)
  have hw2 : IntKind.i64.wrap (3 * (zs.length : Int)) = 3 * (zs.length : Int) := wrap_in (by omega)
  have hw3 : IntKind.i64.wrap (1000 * zs.sum) = 1000 * zs.sum := wrap_in (by omega)
  have hp1 : 0 ≤ 1000 * zs.sum * (zs.length : Int) := Int.mul_nonneg (by omega) (by omega)
  have hp2 : 1000 * zs.sum * (zs.length : Int) ≤ 64000 * 64 := Int.mul_le_mul (by omega) (by omega) (by omega) (by omega)
  have hw4 : IntKind.i64.wrap (1000 * zs.sum * (zs.length : Int)) = carN zs.sum zs.length := wrap_in (by omega)
  have HN := Lib.hid (show -9223372036854775808 ≤ carN zs.sum zs.length ∧ carN zs.sum zs.length ≤ 9223372036854775807 from by unfold carN; omega)
  generalize hcn : carN zs.sum zs.length = cn at *
  have hcases : (zs.sum < 2 * (zs.length : Int) ∧ carD zs.sum zs.length = 1214 * zs.sum - 1197 * zs.length) ∨ ((¬ zs.sum < 2 * (zs.length : Int) ∧ zs.sum < 3 * (zs.length : Int)) ∧ carD zs.sum zs.length = 1124 * zs.sum - 1016 * zs.length) ∨ ((¬ zs.sum < 2 * (zs.length : Int) ∧ ¬ zs.sum < 3 * (zs.length : Int)) ∧ carD zs.sum zs.length = 1069 * zs.sum - 843 * zs.length) := by
    unfold carD
    split
    · exact .inl ⟨by assumption, rfl⟩
    · split
      · exact .inr (.inl ⟨⟨by assumption, by assumption⟩, rfl⟩)
      · exact .inr (.inr ⟨⟨by assumption, by assumption⟩, rfl⟩)
  generalize carD zs.sum zs.length = cd at *
  clear hp1 hp2 hcn
  rcases hcases with ⟨hc1, hcd⟩ | ⟨⟨hc1, hc2⟩, hcd⟩ | ⟨⟨hc1, hc2⟩, hcd⟩
  · have hw5 : IntKind.i64.wrap (1214 * zs.sum) = 1214 * zs.sum := wrap_in (by omega)
    have hw6 : IntKind.i64.wrap (1197 * (zs.length : Int)) = 1197 * (zs.length : Int) := wrap_in (by omega)
    have hw7 : IntKind.i64.wrap (1214 * zs.sum - 1197 * (zs.length : Int)) = cd := by rw [wrap_in (by omega)]; exact hcd.symm
    have HD := Lib.hid (show -9223372036854775808 ≤ cd ∧ cd ≤ 9223372036854775807 from by omega)
    clear hcd
    go_wp2_with (go_at_call 26; (with_reducible refine (fof_n HN.out HD.out).mono ?_); rintro e s3 ⟨b3, A3, k3, c3, B3, l3, d3, rfl, h3, z3, n3, m3⟩; obtain ⟨r0, r1, r2, g0, g1, g2⟩ := HF.out _ (x2.trans z3))
    obtain ⟨q0, q1, q2⟩ := set3 r0 r1 r2 (.bool b3) (.slice A3 k3 c3) (.slice B3 l3 d3)
    refine bodyPost_ret (v := .tuple #[.agg #[.bool b3, .slice A3 k3 c3, .slice B3 l3 d3], .int .i64 0]) (by simp [results, Tryd.results32, go_sem, q0, q1, q2]) rfl ?_
    exact GivesFE.box (x0.trans (x2.trans z3)) h3 (n3.mono (by have := x2.size; omega)) (m3.mono (by have := x2.size; omega)) (Nat.le_refl _)
  · have hw5 : IntKind.i64.wrap (1124 * zs.sum) = 1124 * zs.sum := wrap_in (by omega)
    have hw6 : IntKind.i64.wrap (1016 * (zs.length : Int)) = 1016 * (zs.length : Int) := wrap_in (by omega)
    have hw7 : IntKind.i64.wrap (1124 * zs.sum - 1016 * (zs.length : Int)) = cd := by rw [wrap_in (by omega)]; exact hcd.symm
    have HD := Lib.hid (show -9223372036854775808 ≤ cd ∧ cd ≤ 9223372036854775807 from by omega)
    clear hcd
    go_wp2_with (go_at_call 26; (with_reducible refine (fof_n HN.out HD.out).mono ?_); rintro e s3 ⟨b3, A3, k3, c3, B3, l3, d3, rfl, h3, z3, n3, m3⟩; obtain ⟨r0, r1, r2, g0, g1, g2⟩ := HF.out _ (x2.trans z3))
    obtain ⟨q0, q1, q2⟩ := set3 r0 r1 r2 (.bool b3) (.slice A3 k3 c3) (.slice B3 l3 d3)
    refine bodyPost_ret (v := .tuple #[.agg #[.bool b3, .slice A3 k3 c3, .slice B3 l3 d3], .int .i64 0]) (by simp [results, Tryd.results32, go_sem, q0, q1, q2]) rfl ?_
    exact GivesFE.box (x0.trans (x2.trans z3)) h3 (n3.mono (by have := x2.size; omega)) (m3.mono (by have := x2.size; omega)) (Nat.le_refl _)
  · have hw5 : IntKind.i64.wrap (1069 * zs.sum) = 1069 * zs.sum := wrap_in (by omega)
    have hw6 : IntKind.i64.wrap (843 * (zs.length : Int)) = 843 * (zs.length : Int) := wrap_in (by omega)
    have hw7 : IntKind.i64.wrap (1069 * zs.sum - 843 * (zs.length : Int)) = cd := by rw [wrap_in (by omega)]; exact hcd.symm
    have HD := Lib.hid (show -9223372036854775808 ≤ cd ∧ cd ≤ 9223372036854775807 from by omega)
    clear hcd
    go_wp2_with (go_at_call 26; (with_reducible refine (fof_n HN.out HD.out).mono ?_); rintro e s3 ⟨b3, A3, k3, c3, B3, l3, d3, rfl, h3, z3, n3, m3⟩; obtain ⟨r0, r1, r2, g0, g1, g2⟩ := HF.out _ (x2.trans z3))
    obtain ⟨q0, q1, q2⟩ := set3 r0 r1 r2 (.bool b3) (.slice A3 k3 c3) (.slice B3 l3 d3)
    refine bodyPost_ret (v := .tuple #[.agg #[.bool b3, .slice A3 k3 c3, .slice B3 l3 d3], .int .i64 0]) (by simp [results, Tryd.results32, go_sem, q0, q1, q2]) rfl ?_
    exact GivesFE.box (x0.trans (x2.trans z3)) h3 (n3.mono (by have := x2.size; omega)) (m3.mono (by have := x2.size; omega)) (Nat.le_refl _)

end Go.Proofs.YtkjcbfaimonaoaaDoor
