/- The walk of SamplingSplits. -/
import Derived.Test.YtnedgbebajhcpaaGreatDoorRSplit
import Derived.Test.YtnedgbebajhcpaaGreatDoorSamN
import Derived.Test.YtnedgbebajhcpaaGreatDoorKeepB
import Derived.Test.YtnedgbebajhcpaaGreatDoorWf
set_option linter.unusedVariables false
set_option linter.unusedSimpArgs false
set_option maxRecDepth 100000
namespace Go.Proofs.YtnedgbebajhcpaaGreatDoor
open Go.RowKit Num

theorem split_both {us : List Int} {m : Int} {A : Option Addr} {c : Nat} : ∃ (zs : List Int) (er : Int),
    (∀ w, IntsV w (.slice A us.length c) us → Tab10 w → Calls Tryz.prog 10 #[.slice A us.length c, .int .i64 m] w (GivesIL w zs er)) ∧
    (∀ w, IntsV w (.slice A us.length c) us → Calls Tryz.prog 11 #[.slice A us.length c, .int .i64 m] w (GivesIL w zs er)) := by
  by_cases hp : PlanIn us ∧ 1 ≤ us.length ∧ us.length ≤ 4
  · obtain ⟨hD, hn⟩ := plan_toN hp
    have hlen : (natsS (toN us)).length = us.length := by rw [hn]
    by_cases hm : 0 ≤ m ∧ m ≤ 12
    · obtain ⟨M, rfl⟩ : ∃ M : Nat, m = M := ⟨m.toNat, by omega⟩
      have hbl : (natsS (bestL (toN us) M).1).length = us.length := by rw [natsS_length, (bestL_mem (m := M) (fun d hd => (hD.2 d hd).1) hD.1.1).1, toN_length]
      refine ⟨natsS (bestL (toN us) M).1, 0, fun w hv ht => ?_, fun w hv => ?_⟩
      · have h := split_ok (A := A) (c := c) (w := w) hD (show M ≤ 12 by omega) (by rw [hlen, hn]; exact hv) ht
        rw [hlen] at h
        exact h
      · have h := rsplit_ok (n := us.length) (A := A) (c := c) (w := w) hD (toN_length us) (show M ≤ 12 by omega) (by rw [hn]; exact hv)
        refine h.mono fun e w' hh => ?_
        obtain ⟨A', c', h1, h2, h3⟩ := hh
        exact ⟨A', c', by rw [hbl]; exact h1, by rw [hbl]; exact h2, h3⟩
    · refine ⟨[], 2, fun w hv ht => ?_, fun w hv => rsplit_no hp (by omega) hv⟩
      have h := split_no (A := A) (c := c) (w := w) (m := m) hD (by omega) (by rw [hlen, hn]; exact hv)
      rw [hlen] at h
      exact h
  · exact ⟨[], 1, fun w hv ht => split_arg (fun h => hp ⟨h.2, h.1⟩) hv, fun w hv => rsplit_arg hp hv⟩
theorem gain_both {us zs : List Int} {A B : Option Addr} {c d : Nat} : ∃ b x k er,
    (∀ w, IntsV w (.slice A us.length c) us → IntsV w (.slice B zs.length d) zs → Tab10 w → Calls Tryz.prog 12 #[.slice A us.length c, .slice B zs.length d] w (GivesP w b x k er)) ∧
    (∀ w, IntsV w (.slice A us.length c) us → IntsV w (.slice B zs.length d) zs → Calls Tryz.prog 13 #[.slice A us.length c, .slice B zs.length d] w (GivesP w b x k er)) := by
  by_cases hp : PlanIn us ∧ 1 ≤ us.length ∧ us.length ≤ 4
  · obtain ⟨hD, hn⟩ := plan_toN hp
    have hlen : (natsS (toN us)).length = us.length := by rw [hn]
    by_cases hz : zs.length = us.length
    · by_cases hs : SpecIn zs
      · have hzn : natsS (toN zs) = zs := nats_toN fun z hz => (hs z hz).1
        have hzl : (natsS (toN zs)).length = zs.length := by rw [hzn]
        refine ⟨decide (gl (toN us) (toN zs) < 0), (gl (toN us) (toN zs)).num.natAbs, (gl (toN us) (toN zs)).den, 0, fun w hv hy ht => ?_, fun w hv hy => ?_⟩
        · have h := sGain_ok (D := toN us) (l := toN zs) (A := A) (B := B) (c := c) (d := d) (w := w) hD (by rw [toN_length, toN_length, hz]) (fun x hx => by
            obtain ⟨z, h1, rfl⟩ := List.mem_map.1 hx
            have := hs z h1
            omega) (by rw [hlen, hn]; exact hv) (by rw [hzl, hzn]; exact hy) ht
          rw [hlen, hzl] at h
          exact h.mono fun _ _ h => h.p
        · have h := rGain_any (D := toN us) (zs := zs) (A := A) (B := B) (c := c) (d := d) (w := w) hD (by rw [toN_length, hz]) (by rw [hlen, hn]; exact hv) hy
          rw [hlen] at h
          refine h.mono fun e w' hh => ?_
          rcases hh with ⟨_, hh⟩ | ⟨h1, _⟩
          · exact hh.p
          · exact absurd hs h1
      · refine ⟨false, 0, 0, 2, fun w hv hy ht => (sGain_range ⟨hp.2, hp.1⟩ hz hv hy hs).mono fun _ _ h => h.p, fun w hv hy => ?_⟩
        have h := rGain_any (D := toN us) (zs := zs) (A := A) (B := B) (c := c) (d := d) (w := w) hD (by rw [toN_length, hz]) (by rw [hlen, hn]; exact hv) hy
        rw [hlen] at h
        refine h.mono fun e w' hh => ?_
        rcases hh with ⟨h1, _⟩ | ⟨_, hh⟩
        · exact absurd h1 hs
        · exact hh.p
    · exact ⟨_, _, _, _, fun w hv hy ht => (sGain_len ⟨hp.2, hp.1⟩ hz hv).mono fun _ _ h => h.p, fun w hv hy => (rGain_len hp hz hv).mono fun _ _ h => h.p⟩
  · exact ⟨_, _, _, _, fun w hv hy ht => (sGain_arg (fun h => hp ⟨h.2, h.1⟩) hv).mono fun _ _ h => h.p, fun w hv hy => (rGain_arg hp hv).mono fun _ _ h => h.p⟩

set_option maxHeartbeats 8000000 in
theorem law_SSplits {m : Int} {us zs : List Int} {v0 v2 : Value} {w : World} (hk0 : KInts .i64 w v0 us) (hk2 : KInts .i64 w v2 zs) (ht : Tab10 w) :
    Calls Tryz.prog 4 #[v0, .int .i64 m, v2] w (fun e w' => e = .returned (.bool true) ∧ Ext w w') := by
  have hv := hk0.ints
  have hy := hk2.ints
  obtain ⟨A, c, rfl, _⟩ := id hv
  obtain ⟨B, d, rfl, _⟩ := id hy
  have HT := Lib.hid (fun (w' : World) (h : Ext w w') => ht.ext h)
  have HV := Lib.hid (fun (w' : World) (h : Ext w w') => hv.below h)
  have HY := Lib.hid (fun (w' : World) (h : Ext w w') => hy.below h)
  clear hk0 hk2 hv hy
  by_cases hl0 : us.length ≤ 10
  · have e0 : decide ((10 : Int) < (us.length : Int)) = false := decide_eq_false (by omega)
    have e0' : ¬ 10 < us.length := by omega
    by_cases hl1 : zs.length ≤ 10
    · have e1 : decide ((10 : Int) < (zs.length : Int)) = false := decide_eq_false (by omega)
      have e1' : ¬ 10 < zs.length := by omega
      obtain ⟨bs, es, S1, S2⟩ := split_both (us := us) (m := m) (A := A) (c := c)
      obtain ⟨b1, x1, k1, er, G1, G2⟩ := gain_both (us := us) (zs := zs) (A := A) (B := B) (c := c) (d := d)
      have HS1 := Lib.hid S1
      have HS2 := Lib.hid S2
      have HG1' := Lib.hid G1
      have HG2' := Lib.hid G2
      clear S1 S2 G1 G2
      go_enter Tryz.func4, Tryz.ntmps4
      go_wp2_with fail
      refine (sawake ht).mono ?_
      rintro e U0 ⟨rfl, V0⟩
      clear ht
      go_wp2_with fail
      refine (HS1.out _ (HV.out _ V0) (HT.out _ V0)).mono ?_
      rintro e U1 ⟨AS, cS, rfl, hI1, y1⟩
      have V1 := V0.trans y1
      have HI1 := Lib.hid (fun (w' : World) (h : Ext U1 w') => hI1.below h)
      clear hI1
      go_wp2_with fail
      refine (HS2.out _ (HV.out _ V1)).mono ?_
      rintro e U2 ⟨AR, cR, rfl, hI2, y2⟩
      have V2 := V1.trans y2
      have HI2 := Lib.hid (fun (w' : World) (h : Ext U2 w') => hI2.below h)
      clear hI2
      go_wp2_with fail
      refine (HG1'.out _ (HV.out _ V2) (HY.out _ V2) (HT.out _ V2)).mono ?_
      rintro e w1 ⟨A1, k1, c1, A1', k1', c1', rfl, h1, g1, y1, n1, n1'⟩
      clear n1 n1'
      go_upto_region 6 with (fail)
      have hG1 := FBox.new w1 (.bool b1) (.slice A1 k1 c1) (.slice A1' k1' c1') 27
      have Y1 : Ext U2 (w1.alloc (.cells #[.bool b1, .slice A1 k1 c1, .slice A1' k1' c1'] 27)) := ext_alloc y1 _
      have h1 := h1.below (ext_alloc (Below.refl _ _) (.cells #[.bool b1, .slice A1 k1 c1, .slice A1' k1' c1'] 27))
      have g1 := g1.below (ext_alloc (Below.refl _ _) (.cells #[.bool b1, .slice A1 k1 c1, .slice A1' k1' c1'] 27))
      have hsz1 : w1.heap.size < (w1.alloc (.cells #[.bool b1, .slice A1 k1 c1, .slice A1' k1' c1'] 27)).heap.size := by simp
      generalize w1.alloc (.cells #[.bool b1, .slice A1 k1 c1, .slice A1' k1' c1'] 27) = W1 at *
      generalize w1.heap.size = B1 at *
      have HG1 := Lib.hid (fun (w' : World) (h : Ext W1 w') => hG1.below h)
      have HC1 := Lib.hid (fun (w' : World) (h : Ext W1 w') => And.intro (h1.below h) (g1.below h))
      clear hG1 h1 g1 y1 hsz1
      go_wp2_with fail
      refine (HG2'.out _ (HV.out _ (V2.trans Y1)) (HY.out _ (V2.trans Y1))).mono ?_
      rintro e w2 ⟨A2, k2, c2, A2', k2', c2', rfl, h2, g2, y2, n2, n2'⟩
      clear n2 n2'
      go_upto_region 7 with (fail)
      have hG2 := FBox.new w2 (.bool b1) (.slice A2 k2 c2) (.slice A2' k2' c2') 27
      have Y2 : Ext W1 (w2.alloc (.cells #[.bool b1, .slice A2 k2 c2, .slice A2' k2' c2'] 27)) := ext_alloc y2 _
      have h2 := h2.below (ext_alloc (Below.refl _ _) (.cells #[.bool b1, .slice A2 k2 c2, .slice A2' k2' c2'] 27))
      have g2 := g2.below (ext_alloc (Below.refl _ _) (.cells #[.bool b1, .slice A2 k2 c2, .slice A2' k2' c2'] 27))
      have hsz2 : w2.heap.size < (w2.alloc (.cells #[.bool b1, .slice A2 k2 c2, .slice A2' k2' c2'] 27)).heap.size := by simp
      generalize w2.alloc (.cells #[.bool b1, .slice A2 k2 c2, .slice A2' k2' c2'] 27) = W2 at *
      generalize w2.heap.size = B2 at *
      have HG2 := Lib.hid (fun (w' : World) (h : Ext W2 w') => hG2.below h)
      have HC2 := Lib.hid (fun (w' : World) (h : Ext W2 w') => And.intro (h2.below h) (g2.below h))
      clear hG2 h2 g2 y2 hsz2
      have E1 : Ext W1 W2 := Y2
      have E0 : Ext U2 W2 := Y1.trans Y2
      have HC := Lib.hid (fun (w' : World) (h : Ext W2 w') => (⟨HG1.out _ (E1.trans h), HG2.out _ h⟩ : _ ∧ _))
      obtain ⟨⟨p0, p1, p2, _, _, _⟩, q0, q1, q2, _, _, _⟩ := HC.out _ (Below.refl _ _)
      have f0 : Ext W2 W2 := Below.refl _ _
      go_wp2_with (first
        | (go_at_call 14; (with_reducible refine (bints_same (HI1.out _ (y2.trans (E0.trans f0))) (HI2.out _ (E0.trans f0))).mono ?_); rintro _ s1' ⟨rfl, z5⟩; have f0 := Ext.trans f0 z5; obtain ⟨⟨p0, p1, p2, _, _, _⟩, q0, q1, q2, _, _, _⟩ := HC.out _ f0)
        | (go_at_call 9; (with_reducible refine (bfrac_eq (HC1.out _ (E1.trans f0)).1 (HC1.out _ (E1.trans f0)).2 (HC2.out _ f0).1 (HC2.out _ f0).2).mono ?_); rintro _ s2' ⟨rfl, z6⟩; have f0 := Ext.trans f0 z6))
      go_ret
      exact ⟨rfl, V2.trans (E0.trans f0)⟩
    · have e1 : decide ((10 : Int) < (zs.length : Int)) = true := decide_eq_true (by omega)
      have e1' : 10 < zs.length := by omega
      go_enter Tryz.func4, Tryz.ntmps4
      go_wp2_with fail
      refine (sawake ht).mono ?_
      rintro e U0 ⟨rfl, V0⟩
      go_wp2_with fail
      refine (sawake (HT.out _ V0)).mono ?_
      rintro e U1 ⟨rfl, V1⟩
      go_wp2
      go_ret
      exact ⟨rfl, V0.trans V1⟩
  · have e0 : decide ((10 : Int) < (us.length : Int)) = true := decide_eq_true (by omega)
    have e0' : 10 < us.length := by omega
    go_enter Tryz.func4, Tryz.ntmps4
    go_wp2_with fail
    refine (sawake ht).mono ?_
    rintro e U0 ⟨rfl, V0⟩
    go_wp2_with fail
    refine (sawake (HT.out _ V0)).mono ?_
    rintro e U1 ⟨rfl, V1⟩
    go_wp2
    go_ret
    exact ⟨rfl, V0.trans V1⟩

end Go.Proofs.YtnedgbebajhcpaaGreatDoor
