/- The walk of SamplingToulmin. -/
import Derived.Test.YtnedgbebajhcpaaDoorSamS
import Derived.Test.YtnedgbebajhcpaaDoorWf
set_option linter.unusedVariables false
set_option linter.unusedSimpArgs false
set_option maxRecDepth 100000
namespace Go.Proofs.YtnedgbebajhcpaaDoor
open Go.RowKit Num

theorem toul_both {us : List Int} {t : Int} {A : Option Addr} {c : Nat} (hl : us.length ≤ 80) : ∃ b m k er, (∀ w, IntsV w (.slice A us.length c) us → Calls Tryd.prog 19 #[.slice A us.length c, .int .i64 t] w (GivesP w b m k er)) ∧ (∀ w, IntsV w (.slice A us.length c) us → Calls Tryd.prog 20 #[.slice A us.length c, .int .i64 t] w (GivesP w b m k er)) := by
  by_cases h1 : us.length ≤ 64
  · by_cases h2 : NumsIn us
    · by_cases h3 : 0 ≤ t ∧ t ≤ 8
      · obtain ⟨T, rfl⟩ : ∃ T : Nat, t = T := ⟨t.toNat, by omega⟩
        exact ⟨_, _, _, _, fun w hv => (stoul_ok (t := T) hv h2 h1 (by omega)).mono fun _ _ h => h.p, fun w hv => (rtoul_ok (t := T) hv h2 h1 (by omega)).mono fun _ _ h => h.p⟩
      · exact ⟨_, _, _, _, fun w hv => (stoul_times hv h1 h2 (by omega)).mono fun _ _ h => h.p, fun w hv => (rtoul_times hv h1 h2 (by omega)).mono fun _ _ h => h.p⟩
    · exact ⟨_, _, _, _, fun w hv => (stoul_bad hv h1 h2).mono fun _ _ h => h.p, fun w hv => (rtoul_bad hv hl h2).mono fun _ _ h => h.p⟩
  · by_cases h2 : NumsIn us
    · exact ⟨_, _, _, _, fun w hv => (stoul_long (by omega)).mono fun _ _ h => h.p, fun w hv => (rtoul_long hv (by omega) hl h2).mono fun _ _ h => h.p⟩
    · exact ⟨_, _, _, _, fun w hv => (stoul_long (by omega)).mono fun _ _ h => h.p, fun w hv => (rtoul_bad hv hl h2).mono fun _ _ h => h.p⟩

set_option maxHeartbeats 8000000 in
theorem law_SToulmin {t : Int} {zs : List Int} {v : Value} {w : World} (hkv : KInts .i64 w v zs) (ht : Tab10 w) :
    Calls Tryd.prog 4 #[v, .int .i64 t] w (fun e w' => e = .returned (.bool true) ∧ Ext w w') := by
  have hv := hkv.ints
  obtain ⟨A, c, rfl, hc1, hc2, _⟩ := id hv
  have HT := Lib.hid (fun (w' : World) (h : Ext w w') => ht.ext h)
  have HV := Lib.hid (fun (w' : World) (h : Ext w w') => hv.below h)
  clear hkv hv
  by_cases hl : zs.length ≤ 80
  · obtain ⟨b1, m1, k1, e1, C1, C2⟩ := toul_both (us := zs) (t := t) (A := A) (c := c) hl
    have H1 := Lib.hid C1
    have H2 := Lib.hid C2
    have hlz : decide ((80 : Int) < (zs.length : Int)) = false := decide_eq_false (by omega)
    have hlz2 : ¬ 80 < zs.length := by omega
    clear C1 C2
    go_enter Tryd.func4, Tryd.ntmps4
    go_wp2_with fail
    refine (sawake ht).mono ?_
    rintro e W0 ⟨rfl, V0⟩
    clear ht
    go_wp2_with fail
    refine (H1.out _ (HV.out _ V0)).mono ?_
    rintro e w1 ⟨A1, k1, c1, A1', k1', c1', rfl, h1, g1, y1, n1, n1'⟩
    clear n1 n1'
    go_upto_region 4 with (fail)
    have hG1 := FBox.new w1 (.bool b1) (.slice A1 k1 c1) (.slice A1' k1' c1') 28
    have Y1 : Ext W0 (w1.alloc (.cells #[.bool b1, .slice A1 k1 c1, .slice A1' k1' c1'] 28)) := ext_alloc y1 _
    have h1 := h1.below (ext_alloc (Below.refl _ _) (.cells #[.bool b1, .slice A1 k1 c1, .slice A1' k1' c1'] 28))
    have g1 := g1.below (ext_alloc (Below.refl _ _) (.cells #[.bool b1, .slice A1 k1 c1, .slice A1' k1' c1'] 28))
    have hsz1 : w1.heap.size < (w1.alloc (.cells #[.bool b1, .slice A1 k1 c1, .slice A1' k1' c1'] 28)).heap.size := by simp
    generalize w1.alloc (.cells #[.bool b1, .slice A1 k1 c1, .slice A1' k1' c1'] 28) = W1 at *
    generalize w1.heap.size = B1 at *
    have HG1 := Lib.hid (fun (w' : World) (h : Ext W1 w') => hG1.below h)
    have HC1 := Lib.hid (fun (w' : World) (h : Ext W1 w') => And.intro (h1.below h) (g1.below h))
    clear hG1 h1 g1 y1 hsz1
    go_wp2_with fail
    refine (H2.out _ (HV.out _ (V0.trans Y1))).mono ?_
    rintro e w2 ⟨A2, k2, c2, A2', k2', c2', rfl, h2, g2, y2, n2, n2'⟩
    clear n2 n2'
    go_upto_region 5 with (fail)
    have hG2 := FBox.new w2 (.bool b1) (.slice A2 k2 c2) (.slice A2' k2' c2') 28
    have Y2 : Ext W1 (w2.alloc (.cells #[.bool b1, .slice A2 k2 c2, .slice A2' k2' c2'] 28)) := ext_alloc y2 _
    have h2 := h2.below (ext_alloc (Below.refl _ _) (.cells #[.bool b1, .slice A2 k2 c2, .slice A2' k2' c2'] 28))
    have g2 := g2.below (ext_alloc (Below.refl _ _) (.cells #[.bool b1, .slice A2 k2 c2, .slice A2' k2' c2'] 28))
    have hsz2 : w2.heap.size < (w2.alloc (.cells #[.bool b1, .slice A2 k2 c2, .slice A2' k2' c2'] 28)).heap.size := by simp
    generalize w2.alloc (.cells #[.bool b1, .slice A2 k2 c2, .slice A2' k2' c2'] 28) = W2 at *
    generalize w2.heap.size = B2 at *
    have HG2 := Lib.hid (fun (w' : World) (h : Ext W2 w') => hG2.below h)
    have HC2 := Lib.hid (fun (w' : World) (h : Ext W2 w') => And.intro (h2.below h) (g2.below h))
    clear hG2 h2 g2 y2 hsz2
    have E1 : Ext W1 W2 := Y2
    have HC := Lib.hid (fun (w' : World) (h : Ext W2 w') => (⟨HG1.out _ (E1.trans h), HG2.out _ h⟩ : _ ∧ _))
    obtain ⟨⟨p0, p1, p2, _, _, _⟩, q0, q1, q2, _, _, _⟩ := HC.out _ (Below.refl _ _)
    have f0 : Ext W2 W2 := Below.refl _ _
    go_wp2_with (go_at_call 21; (with_reducible refine (bfrac_eq (HC1.out _ (E1.trans f0)).1 (HC1.out _ (E1.trans f0)).2 (HC2.out _ f0).1 (HC2.out _ f0).2).mono ?_); rintro _ s1' ⟨rfl, z5⟩; have f0 := Ext.trans f0 z5)
    go_ret
    exact ⟨rfl, V0.trans (Y1.trans (E1.trans f0))⟩
  · have hl2 : (80 : Int) < (zs.length : Int) := by omega
    have hl3 : 80 < zs.length := by omega
    go_enter Tryd.func4, Tryd.ntmps4
    go_wp2_with fail
    refine (sawake ht).mono ?_
    rintro e W0 ⟨rfl, V0⟩
    clear ht
    go_wp2_with fail
    refine (sawake (HT.out _ V0)).mono ?_
    rintro e W2 ⟨rfl, V2⟩
    go_wp2
    go_ret
    exact ⟨rfl, V0.trans V2⟩

end Go.Proofs.YtnedgbebajhcpaaDoor
