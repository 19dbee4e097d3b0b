/- Units of weight: Fits, Score. -/
import Derived.Test.YtbplkienkhinmaaGreatDoorUnSp
set_option linter.unusedVariables false
set_option linter.unusedSimpArgs false
set_option maxRecDepth 100000
namespace Go.Proofs.YtbplkienkhinmaaGreatDoor
open Go.RowKit Num

/-- The function value that Fits hands on: it holds the unit's box. -/
abbrev fitsF (B : Nat) : Value := .func (.func 26) #[] #[.pointer (some ⟨B, 0, none⟩)]
/-- A unit's box, wherever. -/
structure UBox (w : World) (B : Nat) (b : Bool) (s t : Value) (u : Rat) : Prop where
  box : FBox w B (.bool b) s t
  val : AnyF w b s t u 3
theorem UBox.below {w w' : World} {B : Nat} {b : Bool} {s t : Value} {u : Rat} (h : UBox w B b s t u) (hE : Ext w w') : UBox w' B b s t u := ⟨h.box.below hE, h.val.below hE⟩

set_option maxHeartbeats 4000000 in
theorem ufit1 {b : Bool} {s t : Value} {u : Rat} {B : Nat} {x : Rat × Rat} {n1 n2 : Bool} {A1 A2 A3 A4 : Option Addr} {k1 k2 k3 k4 c1 c2 c3 c4 : Nat} {w : World} (hu : UBox w B b s t u) (f1 : FracV w n1 (.slice A1 k1 c1) (.slice A2 k2 c2) x.1) (f2 : FracV w n2 (.slice A3 k3 c3) (.slice A4 k4 c4) x.2) (g1 : FB x.1 3) (g2 : FB x.2 3) :
    Calls Tryz.prog 26 #[.agg #[.bool n1, .slice A1 k1 c1, .slice A2 k2 c2, .bool n2, .slice A3 k3 c3, .slice A4 k4 c4], .pointer (some ⟨B, 0, none⟩)] w (fun e w' => e = .returned (.bool (decide (x.1 ≤ u) && decide (u ≤ x.2))) ∧ Ext w w') := by
  obtain ⟨z1, hz1⟩ : ∃ z, z = cmpQ x.1 u := ⟨_, rfl⟩
  obtain ⟨z2, hz2⟩ : ∃ z, z = cmpQ u x.2 := ⟨_, rfl⟩
  have hc1 : z1 ≤ 0 ↔ x.1 ≤ u := by rw [hz1]; exact cmp_le
  have hc2 : z2 ≤ 0 ↔ u ≤ x.2 := by rw [hz2]; exact cmp_le
  have HC1 := Lib.hid (fun (w' : World) (h : Ext w w') => cmp_e (L := 3) (M := 3) (FracV.any (f1.below h) g1 (by omega)) (hu.val.below h) (by omega) hz1.symm)
  have HC2 := Lib.hid (fun (w' : World) (h : Ext w w') => cmp_e (L := 3) (M := 3) (hu.val.below h) (FracV.any (f2.below h) g2 (by omega)) (by omega) hz2.symm)
  have HU := Lib.hid (fun (w' : World) (h : Ext w w') => hu.box.below h)
  obtain ⟨B1, hB1⟩ : ∃ r : Bool, r = (decide (x.1 ≤ u) && decide (u ≤ x.2)) := ⟨_, rfl⟩
  rw [← hB1]
  clear hz1 hz2 f1 f2 g1 g2 hu
  have HSX := Lib.hid (fun (w' : World) (h : Ext (w.alloc (.cells #[.bool n1, .slice A1 k1 c1, .slice A2 k2 c2, .bool n2, .slice A3 k3 c3, .slice A4 k4 c4] 40)) w') => ((SixC.new w (.bool n1) (.slice A1 k1 c1) (.slice A2 k2 c2) (.bool n2) (.slice A3 k3 c3) (.slice A4 k4 c4) 40).below h).zero)
  have x0 : Ext w (w.alloc (.cells #[.bool n1, .slice A1 k1 c1, .slice A2 k2 c2, .bool n2, .slice A3 k3 c3, .slice A4 k4 c4] 40)) := ext_alloc (Below.refl _ _) _
  go_enter Tryz.func26, Tryz.ntmps26
  go_upto_region 1 with (fail)
  generalize w.alloc (.cells #[.bool n1, .slice A1 k1 c1, .slice A2 k2 c2, .bool n2, .slice A3 k3 c3, .slice A4 k4 c4] 40) = W0 at *
  have y0 : Ext W0 W0 := Below.refl _ _
  obtain ⟨e0, e1, e2, e3, e4, e5⟩ := HSX.out _ y0
  obtain ⟨l0, l1, l2, _, _, _⟩ := HU.out _ x0
  by_cases q1 : x.1 ≤ u
  · have p1 : z1 ≤ 0 := hc1.2 q1
    have d1 : decide (z1 ≤ 0) = true := decide_eq_true p1
    by_cases q2 : u ≤ x.2
    · have p2 : z2 ≤ 0 := hc2.2 q2
      have hb : B1 = true := by rw [hB1, decide_eq_true q1, decide_eq_true q2]; rfl
      have HBB := Lib.hid hb
      clear hB1 hb hc1 hc2 q1 q2
      go_wp2_with (first
        | (go_at_call 9; (with_reducible refine (HC1.out _ x0).mono ?_); rintro e w4 ⟨rfl, x4⟩; obtain ⟨e0, e1, e2, e3, e4, e5⟩ := HSX.out _ x4; obtain ⟨l0, l1, l2, _, _, _⟩ := HU.out _ (x0.trans x4))
        | (go_at_call 9; (with_reducible refine (HC2.out _ (x0.trans x4)).mono ?_); rintro e w5 ⟨rfl, x5⟩))
      go_ret
      exact ⟨by rw [HBB.out]; rfl, (x0.trans x4).trans x5⟩
    · have p2 : ¬ z2 ≤ 0 := fun h => q2 (hc2.1 h)
      have p3 : decide (z2 ≤ 0) = false := decide_eq_false p2
      have hb : B1 = false := by rw [hB1, decide_eq_true q1, decide_eq_false q2]; rfl
      have HBB := Lib.hid hb
      clear hB1 hb hc1 hc2 q1 q2
      go_wp2_with (first
        | (go_at_call 9; (with_reducible refine (HC1.out _ x0).mono ?_); rintro e w4 ⟨rfl, x4⟩; obtain ⟨e0, e1, e2, e3, e4, e5⟩ := HSX.out _ x4; obtain ⟨l0, l1, l2, _, _, _⟩ := HU.out _ (x0.trans x4))
        | (go_at_call 9; (with_reducible refine (HC2.out _ (x0.trans x4)).mono ?_); rintro e w5 ⟨rfl, x5⟩))
      go_ret
      exact ⟨by rw [HBB.out]; rfl, (x0.trans x4).trans x5⟩
  · have p1 : ¬ z1 ≤ 0 := fun h => q1 (hc1.1 h)
    have p3 : decide (z1 ≤ 0) = false := decide_eq_false p1
    have hb : B1 = false := by rw [hB1, decide_eq_false q1]; rfl
    have HBB := Lib.hid hb
    clear hB1 hb hc1 hc2 q1
    go_wp2_with (go_at_call 9; (with_reducible refine (HC1.out _ x0).mono ?_); rintro e w4 ⟨rfl, x4⟩)
    go_ret
    exact ⟨by rw [HBB.out]; rfl, x0.trans x4⟩

theorem inS_take_succ (ss : List (Rat × Rat)) {k : Nat} {p : Rat × Rat} (u : Rat) (h : ss[k]? = some p) : inS (ss.take (k + 1)) u = (inS (ss.take k) u || (decide (p.1 ≤ u) && decide (u ≤ p.2))) := by
  rw [List.take_add_one, h, inS_append]
  simp [inS]
/-- The first span that holds the unit, or none. -/
def GivesIx (w : World) (r : Bool) (e : Ending) (w' : World) : Prop := ∃ z : Int, e = .returned (.int .i64 z) ∧ decide (0 ≤ z) = r ∧ Ext w w'

set_option maxHeartbeats 4000000 in
theorem uindexS {b : Bool} {s t : Value} {u : Rat} {B : Nat} {ss : List (Rat × Rat)} {v : Value} {w : World} (hu : UBox w B b s t u) (hv : SpansV w v ss) (hf : AllS (fun q => FB q 3) ss) (hn : ss.length ≤ 1000000) :
    Calls Tryz.prog 45 #[v, fitsF B] w (GivesIx w (inS ss u)) := by
  have HU := Lib.hid (fun (w' : World) (h : Ext w w') => hu.below h)
  have HV := Lib.hid hv
  have HF := Lib.hid hf
  obtain ⟨A, c, rfl, hc1, hc2⟩ := hv.form
  clear hu hv hf
  go_enter Tryz.func45, Tryz.ntmps45
  go_wp2
  go_loopw [8] (fun iv wr => ∃ k : Nat, k ≤ ss.length ∧ iv = .int .i64 k ∧ Hid (inS (ss.take k) u = false) ∧ Ext w wr) (fun iv _ => ss.length - (intOf iv).toNat)
  case atStart => exact ⟨0, Nat.zero_le _, rfl, Lib.hid (by rw [List.take_zero]; rfl), Below.refl _ _⟩
  case round =>
    obtain ⟨k, hk, rfl, hS, hx⟩ := hrel
    by_cases hkn : k < ss.length
    · obtain ⟨x, hxa⟩ : ∃ x, ss[k]? = some x := ⟨_, List.getElem?_eq_getElem hkn⟩
      obtain ⟨bx, ox, m1, A1, k1, c1, A2, k2, c2, m2, A3, k3, c3, A4, k4, c4, e, hbx, hsx, fx1, fx2⟩ := HV.out.at_ hxa
      subst e
      obtain ⟨e0, e1, e2, e3, e4, e5⟩ := hsx.below hx
      have hi1 : (0 : Int) ≤ (k : Int) := by omega
      have hi2 : (k : Int) < (ss.length : Int) := by omega
      have hg := HF.out x (List.mem_of_getElem? hxa)
      have HXA := Lib.hid (inS_take_succ ss u hxa)
      obtain ⟨r, hr⟩ : ∃ r : Bool, r = (decide (x.1 ≤ u) && decide (u ≤ x.2)) := ⟨_, rfl⟩
      have HC := Lib.hid (ufit1 (HU.out _ hx) (fx1.below hx) (fx2.below hx) hg.1 hg.2)
      rw [← hr] at HC HXA
      have HIN := Lib.hid (fun (h : r = true) => (inS_iff.2 ⟨x, List.mem_of_getElem? hxa, by rw [hr] at h; simpa using h⟩ : inS ss u = true))
      clear hxa hsx fx1 fx2 hg hr
      cases r with
      | true =>
        go_wp2_with (go_at_call 26; (with_reducible refine HC.out.mono ?_); rintro e w4 ⟨rfl, x4⟩)
        go_ret
        exact ⟨_, rfl, by rw [HIN.out trivial]; simp, hx.trans x4⟩
      | false =>
        go_wp2_with (go_at_call 26; (with_reducible refine HC.out.mono ?_); rintro e w4 ⟨rfl, x4⟩)
        go_roundw
        case rel => exact ⟨k + 1, by omega, by go_num, Lib.hid (by rw [HXA.out, hS.out]; rfl), hx.trans x4⟩
        case measure => simp [intOf]; omega
    · obtain rfl : ss.length = k := by omega
      have hnn : ¬ ((ss.length : Int) < (ss.length : Int)) := by omega
      have hS' := hS.out
      rw [List.take_length] at hS'
      have HSS := Lib.hid hS'
      clear hS hS'
      go_wp2
      go_ret
      exact ⟨-1, rfl, by rw [HSS.out]; decide, hx⟩
theorem ucontS {b : Bool} {s t : Value} {u : Rat} {B : Nat} {ss : List (Rat × Rat)} {v : Value} {w : World} (hu : UBox w B b s t u) (hv : SpansV w v ss) (hf : AllS (fun q => FB q 3) ss) (hn : ss.length ≤ 1000000) :
    Calls Tryz.prog 25 #[v, fitsF B] w (fun e w' => e = .returned (.bool (inS ss u)) ∧ Ext w w') := by
  have H := Lib.hid (uindexS hu hv hf hn)
  obtain ⟨A, c, rfl, hc1, hc2⟩ := hv.form
  clear hu hv hf
  go_enter Tryz.func25, Tryz.ntmps25
  go_wp2_with (go_at_call 45; (with_reducible refine H.out.mono ?_); rintro e w4 ⟨z, rfl, hz, x4⟩)
  go_ret
  exact ⟨by simp [hz], x4⟩

set_option maxHeartbeats 4000000 in
theorem ufits {b : Bool} {s t : Value} {u : Rat} {wt tol : Int} {m : Nat} {w : World} (hu : AnyF w b s t u 3) (hp : 0 < u) (h1 : 1 ≤ wt) (h2 : wt ≤ 200000) (h3 : 0 ≤ tol) (h4 : tol ≤ 5000) (h5 : 1 ≤ m) (h6 : m ≤ 24) :
    Calls Tryz.prog 10 #[.int .i64 wt, .agg #[.bool b, s, t], .int .i64 tol, .int .i64 m] w (fun e w' => e = .returned (.bool (inS (spansL wt tol m) u)) ∧ Ext w w') := by
  have HSP := Lib.hid (fun (w' : World) => uspans (w := w') h1 h2 h3 h4 h5 h6)
  have HUN := Lib.hid (fun (w' : World) (h : Ext w w') => uunit_t (hu.below h) hp)
  have HV := Lib.hid (fun (w' : World) (h : Ext w w') => hu.below h)
  have HFB := Lib.hid (show AllS (fun q => FB q 3) (spansL wt tol m) from spansTo_fb h1 h2 h3 h4 h6 m (Nat.le_refl _))
  have HLE := Lib.hid (show (spansL wt tol m).length ≤ m from spansTo_length wt tol m m)
  have HM := Lib.hid h6
  clear hu hp h1 h2 h3 h4 h5 h6
  go_enter Tryz.func10, Tryz.ntmps10
  go_upto_region 1 with (fail)
  have hB0 := FBox.new w (.bool b) (s) (t) 27
  have x0 : Ext w (w.alloc (.cells #[.bool b, s, t] 27)) := ext_alloc (Below.refl _ _) _
  have hs0 : w.heap.size + 1 ≤ (w.alloc (.cells #[.bool b, s, t] 27)).heap.size := by simp
  generalize (w.alloc (.cells #[.bool b, s, t] 27)) = W0 at *
  have HB0 := Lib.hid (fun (w' : World) (h : Ext W0 w') => hB0.below h)
  obtain ⟨c00, c01, c02, d00, d01, d02⟩ := hB0
  have HE := Lib.hid x0
  clear x0
  have f0 : Ext W0 W0 := Below.refl _ _
  go_wp2_with (first
    | (go_at_call 14; (with_reducible refine (HSP.out _).mono ?_); rintro e w1 ⟨A, c, rfl, hs1, x1⟩; obtain ⟨c00, c01, c02, _, _, _⟩ := HB0.out _ x1)
    | (go_at_call 22; (with_reducible refine (HUN.out _ (HE.out.trans x1)).mono ?_); rintro e w2 ⟨rfl, x2⟩)
    | (go_at_call 25; (with_reducible refine (ucontS ⟨HB0.out _ (x1.trans x2), HV.out _ ((HE.out.trans x1).trans x2)⟩ (hs1.ext x2) HFB.out (by have := HLE.out; have := HM.out; omega)).mono ?_); rintro e w3 ⟨rfl, x3⟩))
  go_ret
  exact ⟨rfl, ((HE.out.trans x1).trans x2).trans x3⟩

/-- A number and no error. -/
def GivesN0 (w : World) (n er : Int) (e : Ending) (w' : World) : Prop := e = .returned (.tuple #[.int .i64 n, .int .i64 er]) ∧ Ext w w'

set_option maxHeartbeats 4000000 in
theorem uscore_ok {b : Bool} {s t : Value} {u : Rat} {l : List Int} {tol : Int} {m : Nat} {A : Option Addr} {c : Nat} {w : World} (hv : IntsV w (.slice A l.length c) l) (hw : Wts l) (hl : l.length ≤ 64) (hu : AnyF w b s t u 3) (hp : 0 < u) (h3 : 0 ≤ tol) (h4 : tol ≤ 5000) (h5 : 1 ≤ m) (h6 : m ≤ 24) :
    Calls Tryz.prog 8 #[.slice A l.length c, .agg #[.bool b, s, t], .int .i64 tol, .int .i64 m] w (GivesN0 w (scoreN tol m u l) 0) := by
  have HCH := Lib.hid (fun (w' : World) (h : Ext w w') => ucheck_ok (hv.below h) hw (by omega))
  have HLI := Lib.hid (fun (w' : World) => ulimits_ok (m := m) (w := w') h3 h4 (by omega) (by omega))
  have HUN := Lib.hid (fun (w' : World) (h : Ext w w') => uunit_t (hu.below h) hp)
  have HFI := Lib.hid (fun (v : Int) (hm : v ∈ l) (w' : World) (h : Ext w w') => ufits (hu.below h) hp (hw v hm).1 (hw v hm).2 h3 h4 h5 h6)
  have HV := Lib.hid hv
  have HLL := Lib.hid hl
  clear hv hw hu hp h3 h4 h5 h6
  go_enter Tryz.func8, Tryz.ntmps8
  go_upto_region 1 with (fail)
  have hB0 := FBox.new w (.bool b) (s) (t) 27
  have x0 : Ext w (w.alloc (.cells #[.bool b, s, t] 27)) := ext_alloc (Below.refl _ _) _
  have hs0 : w.heap.size + 1 ≤ (w.alloc (.cells #[.bool b, s, t] 27)).heap.size := by simp
  generalize (w.alloc (.cells #[.bool b, s, t] 27)) = W0 at *
  have HB0 := Lib.hid (fun (w' : World) (h : Ext W0 w') => hB0.below h)
  obtain ⟨c00, c01, c02, d00, d01, d02⟩ := hB0
  have HE := Lib.hid x0
  clear x0
  have f0 : Ext W0 W0 := Below.refl _ _
  go_wp2_with (first
    | (go_at_call 19; (with_reducible refine (HCH.out W0 HE.out).mono ?_); rintro e w1 ⟨rfl, hw1⟩; obtain rfl : W0 = w1 := hw1.symm)
    | (go_at_call 22; (with_reducible refine (HUN.out _ HE.out).mono ?_); rintro e w2 ⟨rfl, x2⟩)
    | (go_at_call 20; (with_reducible refine (HLI.out w2).mono ?_); rintro e w3 ⟨rfl, hw3⟩; obtain rfl : w2 = w3 := hw3.symm))
  go_loopw [12, 31] (fun nv iv wr => ∃ (k n : Nat), k ≤ l.length ∧ n ≤ k ∧ nv = .int .i64 n ∧ iv = .int .i64 k ∧ Hid (n = scoreN tol m u (l.take k)) ∧ Ext W0 wr) (fun _ iv _ => l.length - (intOf iv).toNat)
  case atStart => exact ⟨0, 0, Nat.zero_le _, Nat.le_refl _, rfl, rfl, Lib.hid (by rw [List.take_zero]; rfl), x2⟩
  case round =>
    obtain ⟨k, n, hk, hnk, rfl, rfl, hS, hx⟩ := hrel
    by_cases hkn : k < l.length
    · obtain ⟨b1, o, rfl, hb1, hc⟩ := ints_pl HV.out hkn
      obtain ⟨x, hxe⟩ : ∃ x, x = l.getD k 0 := ⟨_, rfl⟩
      have hxa := getD_atU hkn
      have hxm := getD_memU hkn
      rw [← hxe] at hc hxa hxm
      have hc' := (((HE.out.trans hx)).cell (p := ⟨b1, o + k, none⟩) hb1).trans hc
      have hi1 : (0 : Int) ≤ (k : Int) := by omega
      have hi2 : (k : Int) < (l.length : Int) := by omega
      have HXA := Lib.hid (score_succ tol m u l hxa)
      have HC := Lib.hid (HFI.out x hxm _ (HE.out.trans hx))
      have hn64 : (n : Int) ≤ 64 := by have := HLL.out; omega
      obtain ⟨r, hr⟩ : ∃ r : Bool, r = inS (spansL x tol m) u := ⟨_, rfl⟩
      rw [← hr] at HC HXA
      obtain ⟨c00, c01, c02, _, _, _⟩ := HB0.out _ hx
      clear hxa hxm hc hxe hr
      cases r with
      | true =>
        go_wp2_with (go_at_call 10; (with_reducible refine HC.out.mono ?_); rintro e w4 ⟨rfl, x4⟩)
        go_roundw
        case rel => exact ⟨k + 1, n + 1, by omega, by omega, by go_num, by go_num, Lib.hid (by rw [HXA.out, hS.out]; rfl), hx.trans x4⟩
        case measure => simp [intOf]; omega
      | false =>
        go_wp2_with (go_at_call 10; (with_reducible refine HC.out.mono ?_); rintro e w4 ⟨rfl, x4⟩)
        go_roundw
        case rel => exact ⟨k + 1, n, by omega, by omega, rfl, by go_num, Lib.hid (by rw [HXA.out, hS.out]; rfl), hx.trans x4⟩
        case measure => simp [intOf]; omega
    · obtain rfl : l.length = k := by omega
      have hnn : ¬ ((l.length : Int) < (l.length : Int)) := by omega
      have hS' := hS.out
      rw [List.take_length] at hS'
      have HSS := Lib.hid hS'
      clear hS hS'
      go_wp2
      go_ret2
      exact ⟨by rw [← HSS.out]; rfl, HE.out.trans hx⟩
theorem uscore_no {b : Bool} {s t : Value} {l : List Int} {tol : Int} {m : Nat} {A : Option Addr} {c : Nat} {w : World} (hv : IntsV w (.slice A l.length c) l) (hw : ¬ Wts l) (hl : l.length ≤ 64) :
    Calls Tryz.prog 8 #[.slice A l.length c, .agg #[.bool b, s, t], .int .i64 tol, .int .i64 m] w (GivesN0 w 0 1) := by
  have HCH := Lib.hid (fun (w' : World) (h : Ext w w') => ucheck_no (hv.below h) hw (by omega))
  clear hv hw
  go_enter Tryz.func8, Tryz.ntmps8
  go_upto_region 1 with (fail)
  have hB0 := FBox.new w (.bool b) (s) (t) 27
  have x0 : Ext w (w.alloc (.cells #[.bool b, s, t] 27)) := ext_alloc (Below.refl _ _) _
  have hs0 : w.heap.size + 1 ≤ (w.alloc (.cells #[.bool b, s, t] 27)).heap.size := by simp
  generalize (w.alloc (.cells #[.bool b, s, t] 27)) = W0 at *
  have HB0 := Lib.hid (fun (w' : World) (h : Ext W0 w') => hB0.below h)
  obtain ⟨c00, c01, c02, d00, d01, d02⟩ := hB0
  have HE := Lib.hid x0
  clear x0
  have f0 : Ext W0 W0 := Below.refl _ _
  go_wp2_with (go_at_call 19; (with_reducible refine (HCH.out W0 HE.out).mono ?_); rintro e w1 ⟨rfl, hw1⟩; obtain rfl : W0 = w1 := hw1.symm)
  go_ret2
  exact ⟨rfl, HE.out⟩

end Go.Proofs.YtbplkienkhinmaaGreatDoor
