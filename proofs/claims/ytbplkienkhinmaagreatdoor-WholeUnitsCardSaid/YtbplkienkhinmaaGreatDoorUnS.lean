/- Units of weight: a weight, the limits, a list's check, a unit, the first error of two, the magnitude. -/
import Derived.Test.YtbplkienkhinmaaGreatDoorUnL
set_option linter.unusedVariables false
set_option linter.unusedSimpArgs false
set_option maxRecDepth 100000
namespace Go.Proofs.YtbplkienkhinmaaGreatDoor
open Go.RowKit Num

theorem uweight_t {n : Int} {w : World} (h1 : 1 ≤ n) (h2 : n ≤ 200000) : Calls Tryz.prog 35 #[.int .i64 n] w (fun e w' => e = .returned (.bool true) ∧ w' = w) := by
  have h3 : decide (1 ≤ n) = true := decide_eq_true h1
  go_enter Tryz.func35, Tryz.ntmps35
  go_wp2
  go_ret
  exact ⟨rfl, rfl⟩
theorem uweight_f {n : Int} {w : World} (h : n < 1 ∨ 200000 < n) : Calls Tryz.prog 35 #[.int .i64 n] w (fun e w' => e = .returned (.bool false) ∧ w' = w) := by
  by_cases h1 : n < 1
  · clear h
    have h2 : ¬ 1 ≤ n := by omega
    have h3 : decide (1 ≤ n) = false := decide_eq_false h2
    go_enter Tryz.func35, Tryz.ntmps35
    go_wp2
    go_ret
    exact ⟨rfl, rfl⟩
  · have h2 : 200000 < n := by omega
    have h4 : ¬ n ≤ 200000 := by omega
    have h5 : 1 ≤ n := by omega
    clear h
    have h3 : decide (1 ≤ n) = true := decide_eq_true h5
    go_enter Tryz.func35, Tryz.ntmps35
    go_wp2
    go_ret
    exact ⟨rfl, rfl⟩
theorem wis_t {n : Int} {w : World} (h1 : 1 ≤ n) (h2 : n ≤ 200000) : Calls Tryz.prog 53 #[.int .i64 n] w (fun e w' => e = .returned (.bool true) ∧ w' = w) := by
  have h3 : decide (1 ≤ n) = true := decide_eq_true h1
  go_enter Tryz.func53, Tryz.ntmps53
  go_wp2
  go_ret
  exact ⟨rfl, rfl⟩
theorem ulimits_ok {tol m : Int} {w : World} (h1 : 0 ≤ tol) (h2 : tol ≤ 5000) (h3 : 1 ≤ m) (h4 : m ≤ 24) : Calls Tryz.prog 20 #[.int .i64 tol, .int .i64 m] w (fun e w' => e = .returned (.int .i64 0) ∧ w' = w) := by
  have g1 : ¬ tol < 0 := by omega
  have g2 : ¬ 5000 < tol := by omega
  have g3 : ¬ m < 1 := by omega
  have g4 : ¬ 24 < m := by omega
  have d1 : decide (tol < 0) = false := decide_eq_false g1
  have d2 : decide (5000 < tol) = false := decide_eq_false g2
  have d3 : decide (m < 1) = false := decide_eq_false g3
  have d4 : decide (24 < m) = false := decide_eq_false g4
  go_enter Tryz.func20, Tryz.ntmps20
  go_wp2
  go_ret
  exact ⟨rfl, rfl⟩

/-- Every weight is one. -/
def Wts (l : List Int) : Prop := ∀ u ∈ l, 1 ≤ u ∧ u ≤ 200000
abbrev badF : Value := .func (.func 40) #[] #[]
abbrev badW : Value := .func (.func 52) #[] #[]
theorem ubad_f {u : Int} {w : World} (h1 : 1 ≤ u) (h2 : u ≤ 200000) : Calls Tryz.prog 40 #[.int .i64 u] w (fun e w' => e = .returned (.bool false) ∧ w' = w) := by
  have H := Lib.hid (uweight_t (w := w) h1 h2)
  clear h1 h2
  go_enter Tryz.func40, Tryz.ntmps40
  go_wp2_with (go_at_call 35; (with_reducible refine H.out.mono ?_); rintro _ s1 ⟨rfl, rfl⟩)
  go_ret
  exact ⟨rfl, rfl⟩
theorem ubad_t {u : Int} {w : World} (h : u < 1 ∨ 200000 < u) : Calls Tryz.prog 40 #[.int .i64 u] w (fun e w' => e = .returned (.bool true) ∧ w' = w) := by
  have H := Lib.hid (uweight_f (w := w) h)
  clear h
  go_enter Tryz.func40, Tryz.ntmps40
  go_wp2_with (go_at_call 35; (with_reducible refine H.out.mono ?_); rintro _ s1 ⟨rfl, rfl⟩)
  go_ret
  exact ⟨rfl, rfl⟩
theorem wbad_f {u : Int} {w : World} (h1 : 1 ≤ u) (h2 : u ≤ 200000) : Calls Tryz.prog 52 #[.int .i64 u] w (fun e w' => e = .returned (.bool false) ∧ w' = w) := by
  have H := Lib.hid (wis_t (w := w) h1 h2)
  clear h1 h2
  go_enter Tryz.func52, Tryz.ntmps52
  go_wp2_with (go_at_call 53; (with_reducible refine H.out.mono ?_); rintro _ s1 ⟨rfl, rfl⟩)
  go_ret
  exact ⟨rfl, rfl⟩

theorem uindex_ok {us : List Int} {A : Option Addr} {c : Nat} {w : World} (hv : IntsV w (.slice A us.length c) us) (hu : Wts us) (hn : us.length ≤ 1000000) :
    Calls Tryz.prog 61 #[.slice A us.length c, badF] w (fun e w' => e = .returned (.int .i64 (-1)) ∧ w' = w) := by
  have HV := Lib.hid hv
  have HU := Lib.hid hu
  clear hv hu
  go_enter Tryz.func61, Tryz.ntmps61
  go_wp2
  go_loop [8] (fun iv => ∃ k : Nat, k ≤ us.length ∧ iv = .int .i64 k) (fun iv => us.length - (intOf iv).toNat)
  case atStart => exact ⟨0, Nat.zero_le _, rfl⟩
  case round =>
    obtain ⟨k, hk, rfl⟩ := hrel
    by_cases hkn : k < us.length
    · obtain ⟨b, o, rfl, hb, hc⟩ := ints_pl HV.out hkn
      obtain ⟨x, hx⟩ : ∃ x, x = us.getD k 0 := ⟨_, rfl⟩
      obtain ⟨h1, h2⟩ := HU.out _ (getD_memU hkn)
      rw [← hx] at hc h1 h2
      have hi1 : (0 : Int) ≤ (k : Int) := by omega
      have hi2 : (k : Int) < (us.length : Int) := by omega
      clear hx
      go_wp2_with (go_at_call 40; (with_reducible refine (ubad_f h1 h2).mono ?_); rintro _ s1 ⟨rfl, rfl⟩)
      go_round
      case rel => exact ⟨k + 1, by omega, by go_num⟩
      case measure => simp [intOf]; omega
    · go_wp2
      go_ret
      exact ⟨rfl, rfl⟩
theorem windex_ok {us : List Int} {A : Option Addr} {c : Nat} {w : World} (hv : IntsV w (.slice A us.length c) us) (hu : Wts us) (hn : us.length ≤ 1000000) :
    Calls Tryz.prog 61 #[.slice A us.length c, badW] w (fun e w' => e = .returned (.int .i64 (-1)) ∧ w' = w) := by
  have HV := Lib.hid hv
  have HU := Lib.hid hu
  clear hv hu
  go_enter Tryz.func61, Tryz.ntmps61
  go_wp2
  go_loop [8] (fun iv => ∃ k : Nat, k ≤ us.length ∧ iv = .int .i64 k) (fun iv => us.length - (intOf iv).toNat)
  case atStart => exact ⟨0, Nat.zero_le _, rfl⟩
  case round =>
    obtain ⟨k, hk, rfl⟩ := hrel
    by_cases hkn : k < us.length
    · obtain ⟨b, o, rfl, hb, hc⟩ := ints_pl HV.out hkn
      obtain ⟨x, hx⟩ : ∃ x, x = us.getD k 0 := ⟨_, rfl⟩
      obtain ⟨h1, h2⟩ := HU.out _ (getD_memU hkn)
      rw [← hx] at hc h1 h2
      have hi1 : (0 : Int) ≤ (k : Int) := by omega
      have hi2 : (k : Int) < (us.length : Int) := by omega
      clear hx
      go_wp2_with (go_at_call 52; (with_reducible refine (wbad_f h1 h2).mono ?_); rintro _ s1 ⟨rfl, rfl⟩)
      go_round
      case rel => exact ⟨k + 1, by omega, by go_num⟩
      case measure => simp [intOf]; omega
    · go_wp2
      go_ret
      exact ⟨rfl, rfl⟩
def SomeIdxU (n : Nat) (w : World) (e : Ending) (w' : World) : Prop := ∃ k : Nat, k < n ∧ e = .returned (.int .i64 k) ∧ w' = w
theorem uindex_no {us : List Int} {A : Option Addr} {c : Nat} {w : World} (hv : IntsV w (.slice A us.length c) us) (hu : ¬ Wts us) (hn : us.length ≤ 1000000) :
    Calls Tryz.prog 61 #[.slice A us.length c, badF] w (SomeIdxU us.length w) := by
  have HV := Lib.hid hv
  have HU := Lib.hid hu
  clear hv hu
  go_enter Tryz.func61, Tryz.ntmps61
  go_wp2
  go_loop [8] (fun iv => ∃ k : Nat, (k ≤ us.length ∧ Wts (us.take k)) ∧ iv = .int .i64 k) (fun iv => us.length - (intOf iv).toNat)
  case atStart => exact ⟨0, ⟨Nat.zero_le _, by intro u hu; simp at hu⟩, rfl⟩
  case round =>
    obtain ⟨k, ⟨hk, hu⟩, rfl⟩ := hrel
    by_cases hkn : k < us.length
    · obtain ⟨b, o, rfl, hb, hc⟩ := ints_pl HV.out hkn
      have HT := Lib.hid hu
      obtain ⟨x, hx⟩ : ∃ x, x = us.getD k 0 := ⟨_, rfl⟩
      have HX := Lib.hid hx
      rw [← hx] at hc
      have hi1 : (0 : Int) ≤ (k : Int) := by omega
      have hi2 : (k : Int) < (us.length : Int) := by omega
      clear hx hu
      by_cases h1 : 1 ≤ x ∧ x ≤ 200000
      · obtain ⟨h1, h2⟩ := h1
        go_wp2_with (go_at_call 40; (with_reducible refine (ubad_f h1 h2).mono ?_); rintro _ s1 ⟨rfl, rfl⟩)
        go_round
        case rel => exact ⟨k + 1, ⟨by omega, by
          intro u hu
          rw [List.take_add_one, List.mem_append] at hu
          rcases hu with hu | hu
          · exact HT.out u hu
          · rw [List.getElem?_eq_getElem hkn] at hu
            simp at hu
            subst hu
            rw [HX.out, List.getD_eq_getElem?_getD, List.getElem?_eq_getElem hkn] at h1 h2
            exact ⟨h1, h2⟩⟩, by go_num⟩
        case measure => simp [intOf]; omega
      · have h3 : x < 1 ∨ 200000 < x := by omega
        clear h1
        have H3 := Lib.hid h3
        clear h3
        go_wp2_with (go_at_call 40; (with_reducible refine (ubad_t H3.out).mono ?_); rintro _ s1 ⟨rfl, rfl⟩)
        go_ret
        exact ⟨k, hkn, rfl, rfl⟩
    · exfalso
      rw [List.take_of_length_le (by omega)] at hu
      exact HU.out hu
theorem ucontains_ok {us : List Int} {A : Option Addr} {c : Nat} {w : World} (hv : IntsV w (.slice A us.length c) us) (hu : Wts us) (hn : us.length ≤ 1000000) :
    Calls Tryz.prog 39 #[.slice A us.length c, badF] w (fun e w' => e = .returned (.bool false) ∧ w' = w) := by
  have H := Lib.hid (uindex_ok hv hu hn)
  clear hv hu
  go_enter Tryz.func39, Tryz.ntmps39
  go_wp2_with (go_at_call 61; (with_reducible refine H.out.mono ?_); rintro _ s1 ⟨rfl, rfl⟩)
  go_ret
  exact ⟨rfl, rfl⟩
theorem wcontains_ok {us : List Int} {A : Option Addr} {c : Nat} {w : World} (hv : IntsV w (.slice A us.length c) us) (hu : Wts us) (hn : us.length ≤ 1000000) :
    Calls Tryz.prog 39 #[.slice A us.length c, badW] w (fun e w' => e = .returned (.bool false) ∧ w' = w) := by
  have H := Lib.hid (windex_ok hv hu hn)
  clear hv hu
  go_enter Tryz.func39, Tryz.ntmps39
  go_wp2_with (go_at_call 61; (with_reducible refine H.out.mono ?_); rintro _ s1 ⟨rfl, rfl⟩)
  go_ret
  exact ⟨rfl, rfl⟩
theorem ucontains_no {us : List Int} {A : Option Addr} {c : Nat} {w : World} (hv : IntsV w (.slice A us.length c) us) (hu : ¬ Wts us) (hn : us.length ≤ 1000000) :
    Calls Tryz.prog 39 #[.slice A us.length c, badF] w (fun e w' => e = .returned (.bool true) ∧ w' = w) := by
  have H := Lib.hid (uindex_no hv hu hn)
  clear hv hu
  go_enter Tryz.func39, Tryz.ntmps39
  go_wp2_with (go_at_call 61; (with_reducible refine H.out.mono ?_); rintro _ s1 ⟨k, hk, rfl, rfl⟩)
  go_ret
  exact ⟨by simp, rfl⟩

theorem ucheck_ok {us : List Int} {A : Option Addr} {c : Nat} {w : World} (hv : IntsV w (.slice A us.length c) us) (hu : Wts us) (hn : us.length ≤ 64) :
    Calls Tryz.prog 19 #[.slice A us.length c] w (fun e w' => e = .returned (.int .i64 0) ∧ w' = w) := by
  have H := Lib.hid (ucontains_ok hv hu (by omega))
  have h1 : ¬ (64 : Int) < (us.length : Int) := by omega
  clear hv hu
  go_enter Tryz.func19, Tryz.ntmps19
  go_wp2_with (go_at_call 39; (with_reducible refine H.out.mono ?_); rintro _ s1 ⟨rfl, rfl⟩)
  go_ret
  exact ⟨rfl, rfl⟩
theorem ucheck_no {us : List Int} {A : Option Addr} {c : Nat} {w : World} (hv : IntsV w (.slice A us.length c) us) (hu : ¬ Wts us) (hn : us.length ≤ 64) :
    Calls Tryz.prog 19 #[.slice A us.length c] w (fun e w' => e = .returned (.int .i64 1) ∧ w' = w) := by
  have H := Lib.hid (ucontains_no hv hu (by omega))
  have h1 : ¬ (64 : Int) < (us.length : Int) := by omega
  clear hv hu
  go_enter Tryz.func19, Tryz.ntmps19
  go_wp2_with (go_at_call 39; (with_reducible refine H.out.mono ?_); rintro _ s1 ⟨rfl, rfl⟩)
  go_ret
  exact ⟨rfl, rfl⟩
theorem wcheck_ok {us : List Int} {A : Option Addr} {c : Nat} {w : World} (hv : IntsV w (.slice A us.length c) us) (hu : Wts us) (hn : us.length ≤ 64) :
    Calls Tryz.prog 32 #[.slice A us.length c] w (fun e w' => e = .returned (.int .i64 0) ∧ w' = w) := by
  have H := Lib.hid (wcontains_ok hv hu (by omega))
  have h1 : ¬ (64 : Int) < (us.length : Int) := by omega
  clear hv hu
  go_enter Tryz.func32, Tryz.ntmps32
  go_wp2_with (go_at_call 39; (with_reducible refine H.out.mono ?_); rintro _ s1 ⟨rfl, rfl⟩)
  go_ret
  exact ⟨rfl, rfl⟩

/-- The first of two errors that is one, the second being none. -/
theorem uor_z {b : Nat} {w : World} (h0 : w.cell? ⟨b, 0, none⟩ = some (.int .i64 0)) (h1 : w.cell? ⟨b, 1, none⟩ = some (.int .i64 0)) :
    Calls Tryz.prog 18 #[.slice (some ⟨b, 0, none⟩) 2 2] w (fun e w' => e = .returned (.int .i64 0) ∧ w' = w) := by
  go_enter Tryz.func18, Tryz.ntmps18
  go_wp2
  go_loop [8] (fun iv => ∃ k : Nat, k ≤ 2 ∧ iv = .int .i64 k) (fun iv => 2 - (intOf iv).toNat)
  case atStart => exact ⟨0, Nat.zero_le _, rfl⟩
  case round =>
    obtain ⟨k, hk, rfl⟩ := hrel
    obtain rfl | rfl | rfl : k = 0 ∨ k = 1 ∨ k = 2 := by omega
    · go_wp2
      go_round
      case rel => exact ⟨1, by omega, by go_num⟩
      case measure => simp [intOf]
    · go_wp2
      go_round
      case rel => exact ⟨2, by omega, by go_num⟩
      case measure => simp [intOf]
    · go_wp2
      go_ret
      exact ⟨rfl, rfl⟩
theorem uor_e {b : Nat} {w : World} (h0 : w.cell? ⟨b, 0, none⟩ = some (.int .i64 1)) :
    Calls Tryz.prog 18 #[.slice (some ⟨b, 0, none⟩) 2 2] w (fun e w' => e = .returned (.int .i64 1) ∧ w' = w) := by
  go_enter Tryz.func18, Tryz.ntmps18
  go_wp2
  go_loop [8] (fun iv => iv = .int .i64 0) (fun iv => 2 - (intOf iv).toNat)
  case atStart => rfl
  case round =>
    obtain rfl := hrel
    go_wp2
    go_ret
    exact ⟨rfl, rfl⟩

theorem uunit_t {b : Bool} {s t : Value} {q : Rat} {L : Nat} {w : World} (hx : AnyF w b s t q L) (hq : 0 < q) :
    Calls Tryz.prog 22 #[.agg #[.bool b, s, t]] w (fun e w' => e = .returned (.bool true) ∧ Ext w w') := by
  obtain ⟨z, hz⟩ : ∃ z, z = sgnQ q := ⟨_, rfl⟩
  have hp : 0 < z := by rw [hz]; exact (sgnQ_pos q).2 hq
  have HS := Lib.hid (fun (w' : World) (h : Ext w w') => sign_e (hx.below h) hz.symm)
  clear hz hx hq
  go_enter Tryz.func22, Tryz.ntmps22
  go_upto_region 1 with (fail)
  have hB0 := FBox.new w (.bool b) (s) (t) 27
  have x0 : Ext w (w.alloc (.cells #[.bool b, s, t] 27)) := ext_alloc (Below.refl _ _) _
  have hs0 : w.heap.size + 1 ≤ (w.alloc (.cells #[.bool b, s, t] 27)).heap.size := by simp
  generalize (w.alloc (.cells #[.bool b, s, t] 27)) = W0 at *
  have HB0 := Lib.hid (fun (w' : World) (h : Ext W0 w') => hB0.below h)
  obtain ⟨c00, c01, c02, d00, d01, d02⟩ := hB0
  have HE := Lib.hid x0
  clear x0
  have f0 : Ext W0 W0 := Below.refl _ _
  go_wp2_with (go_at_call 6; (with_reducible refine (HS.out _ HE.out).mono ?_); rintro e s1 ⟨rfl, z1⟩)
  go_ret
  exact ⟨rfl, HE.out.trans z1⟩

theorem uwhole_n {n : Int} {w : World} (hn : -9223372036854775808 ≤ n ∧ n ≤ 9223372036854775807) :
    Calls Tryz.prog 27 #[.int .i64 n] w (GivesF w ((n : Rat) / ((1 : Int) : Rat))) := by
  have HN := Lib.hid hn
  clear hn
  go_enter Tryz.func27, Tryz.ntmps27
  go_upto_region 1 with (fail)
  have hF0 := FBox.new w (.bool false) (.slice none 0 0) (.slice none 0 0) 27
  have x0 : Ext w (w.alloc (.cells #[.bool false, .slice none 0 0, .slice none 0 0] 27)) := ext_alloc (Below.refl _ _) _
  have hs0 : w.heap.size + 1 ≤ (w.alloc (.cells #[.bool false, .slice none 0 0, .slice none 0 0] 27)).heap.size := by simp
  generalize w.alloc (.cells #[.bool false, .slice none 0 0, .slice none 0 0] 27) = W0 at *
  have HF := Lib.hid (fun (w' : World) (h : Ext W0 w') => hF0.below h)
  have HE := Lib.hid x0
  have f0 : Ext W0 W0 := Below.refl _ _
  obtain ⟨r0, r1, r2, g0, g1, g2⟩ := hF0
  clear x0
  go_wp2_with (go_at_call 12; (with_reducible refine (fof_n HN.out (by omega)).mono ?_); rintro e s3 ⟨b3, A3, k3, c3, B3, l3, d3, rfl, h3, z3, n3, m3⟩; have f3 : Ext W0 s3 := Ext.trans (by first | ((repeat first | assumption | exact Below.refl _ _ | refine ext_alloc ?_ _ | refine ext_drew ?_ | refine ext_set ?_ (by first | omega | (simp; done) | (simp; omega)) _); done) | fail) z3; obtain ⟨r0, r1, r2, g0, g1, g2⟩ := HF.out _ f3)
  obtain ⟨q0, q1, q2⟩ := set3 r0 r1 r2 (.bool b3) (.slice A3 k3 c3) (.slice B3 l3 d3)
  refine bodyPost_ret (v := .agg #[.bool b3, .slice A3 k3 c3, .slice B3 l3 d3]) (by simp [results, Tryz.results27, go_sem, q0, q1, q2]) rfl ?_
  exact GivesF.box (B := w.heap.size) (HE.out.trans f3) h3 (n3.mono (by have := f0.size; omega)) (m3.mono (by have := f0.size; omega)) (by omega)

theorem udist_n {b : Bool} {s t : Value} {q : Rat} {L : Nat} {w : World} (hx : AnyF w b s t q L) (hL : L ≤ 549755813887) (hq : q < 0) :
    Calls Tryz.prog 29 #[.agg #[.bool b, s, t]] w (GivesF w (absQ q)) := by
  obtain ⟨z, hz⟩ : ∃ z, z = sgnQ q := ⟨_, rfl⟩
  have hp : z < 0 := by rw [hz]; exact (sgnQ_neg q).2 hq
  have HS := Lib.hid (fun (w' : World) (h : Ext w w') => sign_e (hx.below h) hz.symm)
  have HN := Lib.hid (fun (w' : World) (h : Ext w w') => neg_f (hx.below h) hL)
  have e : absQ q = -q := if_pos hq
  rw [e]
  clear hz hx hq e
  go_enter Tryz.func29, Tryz.ntmps29
  go_upto_region 1 with (fail)
  have hB0 := (FBox.new w (.bool b) (s) (t) 27).below (ext_alloc (Below.refl _ _) (.cells #[.bool false, .slice none 0 0, .slice none 0 0] 27))
  have hB1 := FBox.new (w.alloc (.cells #[.bool b, s, t] 27)) (.bool false) (.slice none 0 0) (.slice none 0 0) 27
  rw [show (w.alloc (.cells #[.bool b, s, t] 27)).heap.size = w.heap.size + 1 from by simp] at hB1
  have x0 : Ext w ((w.alloc (.cells #[.bool b, s, t] 27)).alloc (.cells #[.bool false, .slice none 0 0, .slice none 0 0] 27)) := ext_alloc (ext_alloc (Below.refl _ _) _) _
  have hs0 : w.heap.size + 1 + 1 ≤ ((w.alloc (.cells #[.bool b, s, t] 27)).alloc (.cells #[.bool false, .slice none 0 0, .slice none 0 0] 27)).heap.size := by simp
  generalize ((w.alloc (.cells #[.bool b, s, t] 27)).alloc (.cells #[.bool false, .slice none 0 0, .slice none 0 0] 27)) = W0 at *
  have HB0 := Lib.hid (fun (w' : World) (h : Ext W0 w') => hB0.below h)
  obtain ⟨c00, c01, c02, d00, d01, d02⟩ := hB0
  have HF := Lib.hid (fun (w' : World) (h : Ext W0 w') => hB1.below h)
  obtain ⟨r0, r1, r2, g0, g1, g2⟩ := hB1
  have HE := Lib.hid x0
  clear x0
  have f0 : Ext W0 W0 := Below.refl _ _
  go_wp2_with (first
    | (go_at_call 6; (with_reducible refine (HS.out _ HE.out).mono ?_); rintro e s1 ⟨rfl, z1⟩; obtain ⟨c00, c01, c02, _, _, _⟩ := HB0.out _ z1)
    | (go_at_call 48; (with_reducible refine (HN.out _ (HE.out.trans z1)).mono ?_); rintro e s3 ⟨b3, A3, k3, c3, B3, l3, d3, rfl, h3, z3, n3, m3⟩; have f3 : Ext W0 s3 := Ext.trans z1 z3; obtain ⟨r0, r1, r2, g0, g1, g2⟩ := HF.out _ f3))
  obtain ⟨q0, q1, q2⟩ := set3 r0 r1 r2 (.bool b3) (.slice A3 k3 c3) (.slice B3 l3 d3)
  refine bodyPost_ret (v := .agg #[.bool b3, .slice A3 k3 c3, .slice B3 l3 d3]) (by simp [results, Tryz.results29, go_sem, q0, q1, q2]) rfl ?_
  exact GivesF.box (B := w.heap.size + 1) (HE.out.trans f3) h3 (n3.mono (by have := z1.size; omega)) (m3.mono (by have := z1.size; omega)) (by omega)
theorem udist_p {b : Bool} {s t : Value} {q : Rat} {L : Nat} {w : World} (hx : AnyF w b s t q L) (hL : L ≤ 549755813887) (hq : ¬ q < 0) :
    Calls Tryz.prog 29 #[.agg #[.bool b, s, t]] w (GivesF w (absQ q)) := by
  obtain ⟨z, hz⟩ : ∃ z, z = sgnQ q := ⟨_, rfl⟩
  have hp : ¬ z < 0 := by rw [hz, sgnQ_neg q]; exact hq
  have HS := Lib.hid (fun (w' : World) (h : Ext w w') => sign_e (hx.below h) hz.symm)
  have HN := Lib.hid (fun (w' : World) (h : Ext w w') => norm_f (hx.below h) hL)
  have e : absQ q = q := if_neg hq
  rw [e]
  clear hz hx hq e
  go_enter Tryz.func29, Tryz.ntmps29
  go_upto_region 1 with (fail)
  have hB0 := (FBox.new w (.bool b) (s) (t) 27).below (ext_alloc (Below.refl _ _) (.cells #[.bool false, .slice none 0 0, .slice none 0 0] 27))
  have hB1 := FBox.new (w.alloc (.cells #[.bool b, s, t] 27)) (.bool false) (.slice none 0 0) (.slice none 0 0) 27
  rw [show (w.alloc (.cells #[.bool b, s, t] 27)).heap.size = w.heap.size + 1 from by simp] at hB1
  have x0 : Ext w ((w.alloc (.cells #[.bool b, s, t] 27)).alloc (.cells #[.bool false, .slice none 0 0, .slice none 0 0] 27)) := ext_alloc (ext_alloc (Below.refl _ _) _) _
  have hs0 : w.heap.size + 1 + 1 ≤ ((w.alloc (.cells #[.bool b, s, t] 27)).alloc (.cells #[.bool false, .slice none 0 0, .slice none 0 0] 27)).heap.size := by simp
  generalize ((w.alloc (.cells #[.bool b, s, t] 27)).alloc (.cells #[.bool false, .slice none 0 0, .slice none 0 0] 27)) = W0 at *
  have HB0 := Lib.hid (fun (w' : World) (h : Ext W0 w') => hB0.below h)
  obtain ⟨c00, c01, c02, d00, d01, d02⟩ := hB0
  have HF := Lib.hid (fun (w' : World) (h : Ext W0 w') => hB1.below h)
  obtain ⟨r0, r1, r2, g0, g1, g2⟩ := hB1
  have HE := Lib.hid x0
  clear x0
  have f0 : Ext W0 W0 := Below.refl _ _
  go_wp2_with (first
    | (go_at_call 6; (with_reducible refine (HS.out _ HE.out).mono ?_); rintro e s1 ⟨rfl, z1⟩; obtain ⟨c00, c01, c02, _, _, _⟩ := HB0.out _ z1)
    | (go_at_call 37; (with_reducible refine (HN.out _ (HE.out.trans z1)).mono ?_); rintro e s3 ⟨b3, A3, k3, c3, B3, l3, d3, rfl, h3, z3, n3, m3⟩; have f3 : Ext W0 s3 := Ext.trans z1 z3; obtain ⟨r0, r1, r2, g0, g1, g2⟩ := HF.out _ f3))
  obtain ⟨q0, q1, q2⟩ := set3 r0 r1 r2 (.bool b3) (.slice A3 k3 c3) (.slice B3 l3 d3)
  refine bodyPost_ret (v := .agg #[.bool b3, .slice A3 k3 c3, .slice B3 l3 d3]) (by simp [results, Tryz.results29, go_sem, q0, q1, q2]) rfl ?_
  exact GivesF.box (B := w.heap.size + 1) (HE.out.trans f3) h3 (n3.mono (by have := z1.size; omega)) (m3.mono (by have := z1.size; omega)) (by omega)
theorem udist {b : Bool} {s t : Value} {q : Rat} {L : Nat} {w : World} (hx : AnyF w b s t q L) (hL : L ≤ 549755813887) :
    Calls Tryz.prog 29 #[.agg #[.bool b, s, t]] w (GivesF w (absQ q)) := by
  by_cases h : q < 0
  · exact udist_n hx hL h
  · exact udist_p hx hL h
theorem absQ_fb {q : Rat} {L : Nat} (h : FB q L) : FB (absQ q) L := by
  unfold absQ
  split
  · exact FB.neg h
  · exact h

end Go.Proofs.YtbplkienkhinmaaGreatDoor
