/- confidence: check, Ratio. confidence: check of one number, level, accepted. -/
import Derived.Test.YtnedgbebajhcpaaDoorOcA
import Derived.Test.YtnedgbebajhcpaaDoorDiv
import Derived.Test.YtnedgbebajhcpaaDoorKeep
import Derived.Test.YtnedgbebajhcpaaDoorOpn
import Derived.Test.YtnedgbebajhcpaaDoorOcB
set_option linter.unusedVariables false
set_option linter.unusedSimpArgs false
set_option maxRecDepth 100000
namespace Go.Proofs.YtnedgbebajhcpaaDoor
open Go.RowKit Num

theorem cell_spotC {w : World} {p : Addr} {u : Value} (h : w.cell? p = some u) : p.spot = none := by
  unfold World.cell? at h
  split at h
  · split at h
    · cases h
    · simp_all
  · cases h
theorem IntsV.plC {w : World} {A : Option Addr} {n c k : Nat} {zs : List Int} (h : IntsV w (.slice A n c) zs) (hk : k < zs.length) :
    ∃ b o, A = some ⟨b, o, none⟩ ∧ b < w.heap.size ∧ w.cell? ⟨b, o + k, none⟩ = some (.int .i64 (zs.getD k 0)) := by
  obtain ⟨ad, rfl, hb, hc⟩ := h.at_ hk
  obtain ⟨ad0, e0, _, hc0⟩ := h.at_ (k := 0) (by omega)
  injection e0 with e0
  subst e0
  rw [add_nought] at hc0
  obtain ⟨bb, o, sp⟩ := ad
  have hsp : sp = none := cell_spotC hc0
  subst hsp
  have ha : (⟨bb, o, none⟩ : Addr).add k = ⟨bb, o + k, none⟩ := by
    unfold Addr.add
    by_cases hj : k = 0 <;> simp [hj]
  rw [ha] at hc
  exact ⟨bb, o, rfl, hb, hc⟩
theorem getD_memC {us : List Int} {k : Nat} (hk : k < us.length) : us.getD k 0 ∈ us := by
  rw [List.getD_eq_getElem?_getD, List.getElem?_eq_getElem hk]
  exact List.getElem_mem hk
/-- The numbers of dies are within their limits. -/
def DiesIn (us : List Int) : Prop := ∀ u ∈ us, 1 ≤ u ∧ u ≤ 60
def KIn (n d : Int) : Prop := (1 ≤ n ∧ n ≤ 24) ∧ (1 ≤ d ∧ d ≤ n)

theorem kcheck_ok {n d : Int} {us : List Int} {A : Option Addr} {c : Nat} {w : World} (h1 : 1 ≤ n ∧ n ≤ 24) (h2 : 1 ≤ d ∧ d ≤ n) (hv : IntsV w (.slice A us.length c) us) (hu : DiesIn us) (hn : us.length ≤ 1000000) :
    Calls Tryd.prog 56 #[.int .i64 n, .int .i64 d, .slice A us.length c] w (fun e w' => e = .returned (.int .i64 0) ∧ w' = w) := by
  have HV := Lib.hid hv
  have HU := Lib.hid hu
  have e1 : decide (n < 1) = false := decide_eq_false (by omega)
  have e2 : decide (24 < n) = false := decide_eq_false (by omega)
  have e3 : decide (d < 1) = false := decide_eq_false (by omega)
  have e4 : decide (n < d) = false := decide_eq_false (by omega)
  clear hv hu
  go_enter Tryd.func56, Tryd.ntmps56
  go_wp2
  go_loop [26] (fun iv => ∃ k : Nat, k ≤ us.length ∧ iv = .int .i64 k) (fun iv => us.length - (intOf iv).toNat)
  case atStart => exact ⟨0, Nat.zero_le _, rfl⟩
  case round =>
    obtain ⟨k, hk, rfl⟩ := hrel
    by_cases hkn : k < us.length
    · obtain ⟨b, o, rfl, hb, hc⟩ := HV.out.plC hkn
      obtain ⟨x, hx⟩ : ∃ x, x = us.getD k 0 := ⟨_, rfl⟩
      obtain ⟨g1, g2⟩ := HU.out _ (getD_memC hkn)
      rw [← hx] at hc g1 g2
      have hi1 : (0 : Int) ≤ (k : Int) := by omega
      have hi2 : (k : Int) < (us.length : Int) := by omega
      have e5 : decide (x < 1) = false := decide_eq_false (by omega)
      have e6 : decide (60 < x) = false := decide_eq_false (by omega)
      clear hx
      go_wp2
      go_round
      case rel => exact ⟨k + 1, by omega, by go_num⟩
      case measure => simp [intOf]; omega
    · go_wp2
      go_ret
      exact ⟨rfl, rfl⟩
theorem kcheck_no {n d : Int} {us : List Int} {A : Option Addr} {c : Nat} {w : World} (hv : IntsV w (.slice A us.length c) us) (hu : ¬ (KIn n d ∧ DiesIn us)) (hn : us.length ≤ 1000000) :
    Calls Tryd.prog 56 #[.int .i64 n, .int .i64 d, .slice A us.length c] w (fun e w' => e = .returned (.int .i64 2) ∧ w' = w) := by
  have HV := Lib.hid hv
  have HU := Lib.hid hu
  have hcase : n < 1 ∨ (¬ n < 1 ∧ 24 < n) ∨ (¬ n < 1 ∧ ¬ 24 < n ∧ d < 1) ∨ (¬ n < 1 ∧ ¬ 24 < n ∧ ¬ d < 1 ∧ n < d) ∨ KIn n d := by unfold KIn; omega
  clear hv hu
  rcases hcase with g1 | ⟨g1, g2⟩ | ⟨g1, g2, g3⟩ | ⟨g1, g2, g3, g4⟩ | g
  · go_enter Tryd.func56, Tryd.ntmps56
    go_wp2
    go_ret
    exact ⟨rfl, rfl⟩
  · have e1 : decide (n < 1) = false := decide_eq_false (by omega)
    go_enter Tryd.func56, Tryd.ntmps56
    go_wp2
    go_ret
    exact ⟨rfl, rfl⟩
  · have e1 : decide (n < 1) = false := decide_eq_false (by omega)
    have e2 : decide (24 < n) = false := decide_eq_false (by omega)
    go_enter Tryd.func56, Tryd.ntmps56
    go_wp2
    go_ret
    exact ⟨rfl, rfl⟩
  · have e1 : decide (n < 1) = false := decide_eq_false (by omega)
    have e2 : decide (24 < n) = false := decide_eq_false (by omega)
    have e3 : decide (d < 1) = false := decide_eq_false (by omega)
    go_enter Tryd.func56, Tryd.ntmps56
    go_wp2
    go_ret
    exact ⟨rfl, rfl⟩
  · have HU := Lib.hid (show ¬ DiesIn us from fun h => HU.out ⟨g, h⟩)
    obtain ⟨h1, h2⟩ := g
    have e1 : decide (n < 1) = false := decide_eq_false (by omega)
    have e2 : decide (24 < n) = false := decide_eq_false (by omega)
    have e3 : decide (d < 1) = false := decide_eq_false (by omega)
    have e4 : decide (n < d) = false := decide_eq_false (by omega)
    go_enter Tryd.func56, Tryd.ntmps56
    go_wp2
    go_loop [26] (fun iv => ∃ k : Nat, (k ≤ us.length ∧ DiesIn (us.take k)) ∧ iv = .int .i64 k) (fun iv => us.length - (intOf iv).toNat)
    case atStart => exact ⟨0, ⟨Nat.zero_le _, by intro u hu; simp at hu⟩, rfl⟩
    case round =>
      obtain ⟨k, ⟨hk, hu⟩, rfl⟩ := hrel
      by_cases hkn : k < us.length
      · obtain ⟨b, o, rfl, hb, hc⟩ := HV.out.plC hkn
        have HT := Lib.hid hu
        obtain ⟨x, hx⟩ : ∃ x, x = us.getD k 0 := ⟨_, rfl⟩
        have HX := Lib.hid hx
        rw [← hx] at hc
        have hi1 : (0 : Int) ≤ (k : Int) := by omega
        have hi2 : (k : Int) < (us.length : Int) := by omega
        clear hx hu
        by_cases g1 : x < 1
        · go_wp2
          go_ret
          exact ⟨rfl, rfl⟩
        · have e5 : decide (x < 1) = false := decide_eq_false (by omega)
          by_cases g2 : 60 < x
          · go_wp2
            go_ret
            exact ⟨rfl, rfl⟩
          · have e6 : decide (60 < x) = false := decide_eq_false (by omega)
            go_wp2
            go_round
            case rel => exact ⟨k + 1, ⟨by omega, by
              intro u hu
              rw [List.take_add_one, List.mem_append] at hu
              rcases hu with hu | hu
              · exact HT.out u hu
              · rw [List.getElem?_eq_getElem hkn] at hu
                simp at hu
                subst hu
                have e := HX.out
                rw [List.getD_eq_getElem?_getD, List.getElem?_eq_getElem hkn] at e
                have e' : x = us[k] := e
                omega⟩, by go_num⟩
            case measure => simp [intOf]; omega
      · exfalso
        rw [List.take_of_length_le (by omega)] at hu
        exact HU.out hu

theorem CanV.put {w : World} {v : Value} {n b : Nat} (h : CanV w v n) (hn : New (b + 1) v) (x y z : Value) : CanV (((w.setCell ⟨b, 0, none⟩ x).setCell ⟨b, 1, none⟩ y).setCell ⟨b, 2, none⟩ z) v n :=
  U32s.setNew (U32s.setNew (U32s.setNew h hn (Nat.lt_succ_self _) _) hn (Nat.lt_succ_self _) _) hn (Nat.lt_succ_self _) _
theorem pchI_fbC {n D : Nat} (hn : n ≤ 30) (hD : D ≤ 60) (d : Int) : FB (pchI n D d) 130 := by
  unfold pchI
  split
  · exact fb_zero.mono (by omega)
  · by_cases h : d.toNat ≤ 30
    · rw [← pch_frac]
      refine frac_fb ?_ ?_ (by decide)
      · have h1 := chs_small (d := d.toNat) hD
        have h2 := onto_small (d := d.toNat) hn h
        have h3 := limbsOf_length_mul (chs D d.toNat) (stir n d.toNat * fact d.toNat)
        omega
      · have := all_small hn hD
        omega
    · rw [pch_gt (.inl (by omega))]
      exact fb_zero.mono (by omega)
theorem ints_lit2 (w : World) (a b : Int) : IntsV (w.alloc (.cells #[.int .i64 a, .int .i64 b] 3)) (.slice (some ⟨w.heap.size, 0, none⟩) 2 2) [a, b] :=
  IntsV.of_own (base := w.heap.size) (e := 3) (n := 2) (World.ownsRow_lit (base := w.heap.size) (size := 1) w #[.int .i64 a, .int .i64 b] 2 (Nat.le_refl _) (by unfold maxLen; omega) rfl)

theorem kcheck2_ok {n d D E : Nat} (h1 : 1 ≤ n ∧ n ≤ 24) (h2 : 1 ≤ d ∧ d ≤ n) (h3 : 1 ≤ D ∧ D ≤ 60) (h4 : 1 ≤ E ∧ E ≤ 60) (w : World) :
    Calls Tryd.prog 56 #[.int .i64 n, .int .i64 d, .slice (some ⟨w.heap.size, 0, none⟩) 2 2] (w.alloc (.cells #[.int .i64 D, .int .i64 E] 3)) (fun e w' => e = .returned (.int .i64 0) ∧ w' = w.alloc (.cells #[.int .i64 D, .int .i64 E] 3)) := by
  have hd : DiesIn [(D : Int), (E : Int)] := by intro u hu; simp at hu; omega
  have h := kcheck_ok (n := (n : Int)) (d := (d : Int)) (us := [(D : Int), (E : Int)]) (A := some ⟨w.heap.size, 0, none⟩) (c := 2) (w := w.alloc (.cells #[.int .i64 D, .int .i64 E] 3)) (by omega) (by omega) (ints_lit2 w D E) hd (by simp)
  exact h
theorem kcheck2_no {n d D E : Int} (hu : ¬ (KIn n d ∧ DiesIn [D, E])) (w : World) :
    Calls Tryd.prog 56 #[.int .i64 n, .int .i64 d, .slice (some ⟨w.heap.size, 0, none⟩) 2 2] (w.alloc (.cells #[.int .i64 D, .int .i64 E] 3)) (fun e w' => e = .returned (.int .i64 2) ∧ w' = w.alloc (.cells #[.int .i64 D, .int .i64 E] 3)) := by
  have h := kcheck_no (n := n) (d := d) (us := [D, E]) (A := some ⟨w.heap.size, 0, none⟩) (c := 2) (w := w.alloc (.cells #[.int .i64 D, .int .i64 E] 3)) (ints_lit2 w D E) hu (by simp)
  exact h

set_option maxHeartbeats 4000000 in
theorem kratio_any {n d D E : Nat} {b : Bool} {m k : Nat} {er : Int} {w : World} (h1 : 1 ≤ n ∧ n ≤ 24) (h2 : 1 ≤ d ∧ d ≤ n) (h3 : 1 ≤ D ∧ D ≤ 60) (h4 : 1 ≤ E ∧ E ≤ 60)
    (hdiv : ∀ (b1 : Bool) (s1 t1 : Value) (b2 : Bool) (s2 t2 : Value) (w' : World), AnyF w' b1 s1 t1 (pchI n D d) 130 → AnyF w' b2 s2 t2 (pchI n E d) 130 → Calls Tryd.prog 57 #[.agg #[.bool b1, s1, t1], .agg #[.bool b2, s2, t2]] w' (GivesP w' b m k er)) :
    Calls Tryd.prog 30 #[.int .i64 n, .int .i64 d, .int .i64 D, .int .i64 E] w (GivesP w b m k er) := by
  have HD := Lib.hid hdiv
  have HF1 := Lib.hid (pchI_fbC (n := n) (D := D) (by omega) (by omega) (d : Int))
  have HF2 := Lib.hid (pchI_fbC (n := n) (D := E) (by omega) (by omega) (d : Int))
  have HCK := Lib.hid (kcheck2_ok h1 h2 h3 h4)
  clear hdiv
  go_enter Tryd.func30, Tryd.ntmps30
  go_upto_region 1 with (fail)
  have hF0 := FBox.new w (.bool false) (.slice none 0 0) (.slice none 0 0) 28
  have x0 : Ext w (w.alloc (.cells #[.bool false, .slice none 0 0, .slice none 0 0] 28)) := ext_alloc (Below.refl _ _) _
  have hs0 : w.heap.size + 1 ≤ (w.alloc (.cells #[.bool false, .slice none 0 0, .slice none 0 0] 28)).heap.size := by simp
  generalize w.alloc (.cells #[.bool false, .slice none 0 0, .slice none 0 0] 28) = W0 at *
  have HF := Lib.hid (fun (w' : World) (h : Ext W0 w') => hF0.below h)
  have HE := Lib.hid x0
  have f0 : Ext W0 W0 := Below.refl _ _
  obtain ⟨r0, r1, r2, g0, g1, g2⟩ := hF0
  clear x0
  go_wp2_with fail
  refine (HCK.out _).mono ?_
  rintro e w1 ⟨rfl, rfl⟩
  have x1 : Ext W0 (W0.alloc (.cells #[.int .i64 D, .int .i64 E] 3)) := ext_alloc (Below.refl _ _) _
  generalize W0.alloc (.cells #[.int .i64 D, .int .i64 E] 3) = W5 at *
  go_wp2_with fail
  refine (ochance_ok (n := n) (D := D) (d := (d : Int)) (by omega) (by omega) (by omega)).mono ?_
  rintro e w1 ⟨b1, A1, k1, c1, A1', k1', c1', rfl, h1, y1, n1, n1'⟩
  clear n1 n1'
  go_upto_region 5 with (fail)
  have hG1 := FBox.new w1 (.bool b1) (.slice A1 k1 c1) (.slice A1' k1' c1') 28
  have Y1 : Ext W5 (w1.alloc (.cells #[.bool b1, .slice A1 k1 c1, .slice A1' k1' c1'] 28)) := ext_alloc y1 _
  have h1 := h1.below (ext_alloc (Below.refl _ _) (.cells #[.bool b1, .slice A1 k1 c1, .slice A1' k1' c1'] 28))
  have hsz1 : w1.heap.size < (w1.alloc (.cells #[.bool b1, .slice A1 k1 c1, .slice A1' k1' c1'] 28)).heap.size := by simp
  generalize w1.alloc (.cells #[.bool b1, .slice A1 k1 c1, .slice A1' k1' c1'] 28) = W1 at *
  generalize w1.heap.size = B1 at *
  have HG1 := Lib.hid (fun (w' : World) (h : Ext W1 w') => hG1.below h)
  have HP1 := Lib.hid (fun (w' : World) (h : Ext W1 w') => FracV.any (h1.below h) (HF1.out) (by omega))
  have HB1 := Lib.hid (fun (w' : World) (h : Ext W1 w') => h1.below h)
  clear hG1 h1 y1 hsz1
  go_wp2_with fail
  refine (ochance_ok (n := n) (D := E) (d := (d : Int)) (by omega) (by omega) (by omega)).mono ?_
  rintro e w2 ⟨b2, A2, k2, c2, A2', k2', c2', rfl, h2, y2, n2, n2'⟩
  clear n2 n2'
  go_upto_region 6 with (fail)
  have hG2 := FBox.new w2 (.bool b2) (.slice A2 k2 c2) (.slice A2' k2' c2') 28
  have Y2 : Ext W1 (w2.alloc (.cells #[.bool b2, .slice A2 k2 c2, .slice A2' k2' c2'] 28)) := ext_alloc y2 _
  have h2 := h2.below (ext_alloc (Below.refl _ _) (.cells #[.bool b2, .slice A2 k2 c2, .slice A2' k2' c2'] 28))
  have hsz2 : w2.heap.size < (w2.alloc (.cells #[.bool b2, .slice A2 k2 c2, .slice A2' k2' c2'] 28)).heap.size := by simp
  generalize w2.alloc (.cells #[.bool b2, .slice A2 k2 c2, .slice A2' k2' c2'] 28) = W2 at *
  generalize w2.heap.size = B2 at *
  have HG2 := Lib.hid (fun (w' : World) (h : Ext W2 w') => hG2.below h)
  have HP2 := Lib.hid (fun (w' : World) (h : Ext W2 w') => FracV.any (h2.below h) (HF2.out) (by omega))
  have HB2 := Lib.hid (fun (w' : World) (h : Ext W2 w') => h2.below h)
  clear hG2 h2 y2 hsz2
  obtain ⟨p0, p1, p2, _, _, _⟩ := HG1.out _ Y2
  obtain ⟨s0, s1, s2, _, _, _⟩ := HG2.out _ (Below.refl _ _)
  obtain ⟨r0, r1, r2, g0, g1, g2⟩ := HF.out _ (x1.trans (Y1.trans Y2))
  go_wp2_with (go_at_call 57; (with_reducible refine (HD.out _ _ _ _ _ _ _ (HP1.out _ Y2) (HP2.out _ (Below.refl _ _))).mono ?_); rintro _ s9 ⟨A9, k9, c9, B9, l9, d9, rfl, h9, h9', z9, n9, m9⟩; obtain ⟨r0, r1, r2, g0, g1, g2⟩ := HF.out _ (x1.trans (Y1.trans (Y2.trans z9))))
  obtain ⟨q0, q1, q2⟩ := set3 r0 r1 r2 (.bool b) (.slice A9 k9 c9) (.slice B9 l9 d9)
  refine bodyPost_ret (v := .tuple #[.agg #[.bool b, .slice A9 k9 c9, .slice B9 l9 d9], .int .i64 er]) (by simp [results, Tryd.results30, go_sem, q0, q1, q2]) rfl ?_
  have hlo : w.heap.size + 1 ≤ W2.heap.size := by have := x1.size; have := Y1.size; have := Y2.size; omega
  exact ⟨A9, k9, c9, B9, l9, d9, rfl, CanV.put h9 (n9.mono hlo) _ _ _, CanV.put h9' (m9.mono hlo) _ _ _, ext_put (HE.out.trans (x1.trans (Y1.trans (Y2.trans z9)))) (Nat.le_refl _) _ _ _, n9.mono (by omega), m9.mono (by omega)⟩
theorem kratio_ok {n d D E : Nat} {w : World} (h1 : 1 ≤ n ∧ n ≤ 24) (h2 : 1 ≤ d ∧ d ≤ n) (h3 : 1 ≤ D ∧ D ≤ 60) (h4 : 1 ≤ E ∧ E ≤ 60) (hq : pchI n E d ≠ 0) :
    Calls Tryd.prog 30 #[.int .i64 n, .int .i64 d, .int .i64 D, .int .i64 E] w (GivesP w (decide (pchI n D d / pchI n E d < 0)) (pchI n D d / pchI n E d).num.natAbs (pchI n D d / pchI n E d).den 0) :=
  kratio_any h1 h2 h3 h4 fun _ _ _ _ _ _ _ hx hy => (div_ok hx hy (by omega) hq).mono fun _ _ h => h.p
theorem kratio_z {n d D E : Nat} {w : World} (h1 : 1 ≤ n ∧ n ≤ 24) (h2 : 1 ≤ d ∧ d ≤ n) (h3 : 1 ≤ D ∧ D ≤ 60) (h4 : 1 ≤ E ∧ E ≤ 60) (hq : pchI n E d = 0) :
    Calls Tryd.prog 30 #[.int .i64 n, .int .i64 d, .int .i64 D, .int .i64 E] w (GivesP w false 0 0 12) :=
  kratio_any h1 h2 h3 h4 fun _ _ _ _ _ _ _ hx hy => (div_no hy hq).mono fun _ _ h => h.p
set_option maxHeartbeats 4000000 in
theorem kratio_no {n d D E : Int} {w : World} (hu : ¬ (KIn n d ∧ DiesIn [D, E])) :
    Calls Tryd.prog 30 #[.int .i64 n, .int .i64 d, .int .i64 D, .int .i64 E] w (GivesP w false 0 0 2) := by
  have HCK := Lib.hid (kcheck2_no hu)
  clear hu
  go_enter Tryd.func30, Tryd.ntmps30
  go_upto_region 1 with (fail)
  have hF0 := FBox.new w (.bool false) (.slice none 0 0) (.slice none 0 0) 28
  have x0 : Ext w (w.alloc (.cells #[.bool false, .slice none 0 0, .slice none 0 0] 28)) := ext_alloc (Below.refl _ _) _
  have hs0 : w.heap.size + 1 ≤ (w.alloc (.cells #[.bool false, .slice none 0 0, .slice none 0 0] 28)).heap.size := by simp
  generalize w.alloc (.cells #[.bool false, .slice none 0 0, .slice none 0 0] 28) = W0 at *
  have HF := Lib.hid (fun (w' : World) (h : Ext W0 w') => hF0.below h)
  have HE := Lib.hid x0
  have f0 : Ext W0 W0 := Below.refl _ _
  obtain ⟨r0, r1, r2, g0, g1, g2⟩ := hF0
  clear x0
  go_wp2_with fail
  refine (HCK.out _).mono ?_
  rintro e w1 ⟨rfl, rfl⟩
  have x1 : Ext W0 (W0.alloc (.cells #[.int .i64 D, .int .i64 E] 3)) := ext_alloc (Below.refl _ _) _
  generalize W0.alloc (.cells #[.int .i64 D, .int .i64 E] 3) = W5 at *
  obtain ⟨r0, r1, r2, g0, g1, g2⟩ := HF.out _ x1
  go_wp2
  obtain ⟨q0, q1, q2⟩ := set3 r0 r1 r2 (.bool false) (.slice none 0 0) (.slice none 0 0)
  refine bodyPost_ret (v := .tuple #[.agg #[.bool false, .slice none 0 0, .slice none 0 0], .int .i64 2]) (by simp [results, Tryd.results30, go_sem, q0, q1, q2]) rfl ?_
  exact GivesFN.p ⟨rfl, ext_put (HE.out.trans x1) (Nat.le_refl _) _ _ _⟩

end Go.Proofs.YtnedgbebajhcpaaDoor
namespace Go.Proofs.YtnedgbebajhcpaaDoor
open Go.RowKit Num

theorem ints_lit1 (w : World) (a : Int) : IntsV (w.alloc (.cells #[.int .i64 a] 3)) (.slice (some ⟨w.heap.size, 0, none⟩) 1 1) [a] :=
  IntsV.of_own (base := w.heap.size) (e := 3) (n := 1) (World.ownsRow_lit (base := w.heap.size) (size := 1) w #[.int .i64 a] 1 (Nat.le_refl _) (by unfold maxLen; omega) rfl)
theorem kcheck1_ok {n d D : Nat} (h1 : 1 ≤ n ∧ n ≤ 24) (h2 : 1 ≤ d ∧ d ≤ n) (h3 : 1 ≤ D ∧ D ≤ 60) (w : World) :
    Calls Tryd.prog 56 #[.int .i64 n, .int .i64 d, .slice (some ⟨w.heap.size, 0, none⟩) 1 1] (w.alloc (.cells #[.int .i64 D] 3)) (fun e w' => e = .returned (.int .i64 0) ∧ w' = w.alloc (.cells #[.int .i64 D] 3)) := by
  have hd : DiesIn [(D : Int)] := by intro u hu; simp at hu; omega
  have h := kcheck_ok (n := (n : Int)) (d := (d : Int)) (us := [(D : Int)]) (A := some ⟨w.heap.size, 0, none⟩) (c := 1) (w := w.alloc (.cells #[.int .i64 D] 3)) (by omega) (by omega) (ints_lit1 w D) hd (by simp)
  exact h
theorem kcheck1_no {n d D : Int} (hu : ¬ (KIn n d ∧ DiesIn [D])) (w : World) :
    Calls Tryd.prog 56 #[.int .i64 n, .int .i64 d, .slice (some ⟨w.heap.size, 0, none⟩) 1 1] (w.alloc (.cells #[.int .i64 D] 3)) (fun e w' => e = .returned (.int .i64 2) ∧ w' = w.alloc (.cells #[.int .i64 D] 3)) := by
  have h := kcheck_no (n := n) (d := d) (us := [D]) (A := some ⟨w.heap.size, 0, none⟩) (c := 1) (w := w.alloc (.cells #[.int .i64 D] 3)) (ints_lit1 w D) hu (by simp)
  exact h
/-- Above 0 and below 1. -/
def Lvl (q : Rat) : Prop := 0 < q ∧ q < 1
instance (q : Rat) : Decidable (Lvl q) := by unfold Lvl; infer_instance
theorem Lvl.sgn {q : Rat} (h : Lvl q) : sgnQ q = 1 := by
  unfold sgnQ
  have := h.1
  rw [if_neg (by grind), if_pos this]
theorem Lvl.cmp {q : Rat} (h : Lvl q) : cmpQ q one1 = -1 := by
  have := h.2
  unfold cmpQ
  have e : one1 = 1 := by decide +kernel
  rw [e, if_pos this]
theorem fine_sub {q : Rat} (h : ¬ Lvl q) : sgnQ q ≤ 0 ∨ 0 ≤ cmpQ q one1 := by
  have e : one1 = 1 := by decide +kernel
  by_cases h0 : 0 < q
  · right
    have h1 : ¬ q < 1 := fun h' => h ⟨h0, h'⟩
    unfold cmpQ
    rw [e, if_neg h1]
    split <;> omega
  · left
    unfold sgnQ
    rw [if_neg h0]
    split <;> omega

end Go.Proofs.YtnedgbebajhcpaaDoor
