/- The walk of EstimatorLists. -/
import Derived.Test.YtfnngchanhnaiaaDoorEOk
import Derived.Test.YtfnngchanhnaiaaDoorEstA
import Derived.Test.YtfnngchanhnaiaaDoorKeepB
set_option linter.unusedVariables false
set_option linter.unusedSimpArgs false
set_option maxRecDepth 100000
namespace Go.Proofs.YtfnngchanhnaiaaDoor
open Go.RowKit Num

theorem rof_err {n c : Nat} {A : Option Addr} {side z : Int} {w : World} (hz : z ≠ 0) (hC : Calls Tryd.prog 17 #[.slice A n c] w (fun e w' => e = .returned (.int .i64 z) ∧ Ext w w')) :
    Calls Tryd.prog 7 #[.slice A n c, .int .i64 side] w (GivesI w [] z) := by
  have HC := Lib.hid hC
  have h1 : (z == 0) = false := by rw [beq_eq_false_iff_ne]; exact hz
  clear hC
  go_enter Tryd.func7, Tryd.ntmps7
  go_wp2_with (go_at_call 17; (with_reducible refine HC.out.mono ?_); rintro _ s1 ⟨rfl, z1⟩)
  go_ret2
  exact GivesI.none_ z1
theorem rof_side {n c : Nat} {A : Option Addr} {side : Int} {w : World} (hs : side ≠ 0 ∧ side ≠ 1) (hC : Calls Tryd.prog 17 #[.slice A n c] w (fun e w' => e = .returned (.int .i64 0) ∧ Ext w w')) :
    Calls Tryd.prog 7 #[.slice A n c, .int .i64 side] w (GivesI w [] 2) := by
  have HC := Lib.hid hC
  have HS := Lib.hid (show side < 0 ∨ 1 < side from by omega)
  clear hC hs
  go_enter Tryd.func7, Tryd.ntmps7
  go_wp2_with (first
    | (go_at_call 17; (with_reducible refine HC.out.mono ?_); rintro _ s1 ⟨rfl, z1⟩)
    | (go_at_call 18; (with_reducible refine (rin_f (n := side) HS.out).mono ?_); rintro _ s2 ⟨rfl, hs2⟩; obtain rfl : s1 = s2 := hs2.symm))
  go_ret2
  exact GivesI.none_ z1
theorem rof_none {c : Nat} {A : Option Addr} {side : Int} {w : World} (hs : side = 0 ∨ side = 1) (hC : Calls Tryd.prog 17 #[.slice A 0 c] w (fun e w' => e = .returned (.int .i64 0) ∧ Ext w w')) :
    Calls Tryd.prog 7 #[.slice A 0 c, .int .i64 side] w (GivesI w [] 7) := by
  have HC := Lib.hid hC
  have HS := Lib.hid (show 0 ≤ side ∧ side ≤ 1 from by omega)
  clear hC hs
  go_enter Tryd.func7, Tryd.ntmps7
  go_wp2_with (first
    | (go_at_call 17; (with_reducible refine HC.out.mono ?_); rintro _ s1 ⟨rfl, z1⟩)
    | (go_at_call 18; (with_reducible refine (rin_t (n := side) HS.out.1 HS.out.2).mono ?_); rintro _ s2 ⟨rfl, hs2⟩; obtain rfl : s1 = s2 := hs2.symm))
  go_ret2
  exact GivesI.none_ z1

theorem chk_ex (l : List Sp) : ∃ z, ChkIs l z ∧ (z = 0 → AllOk l ∧ (ids l).Nodup) := by
  by_cases h1 : AllOk l
  · by_cases h2 : (ids l).Nodup
    · exact ⟨0, .inl ⟨h1, h2, rfl⟩, fun _ => ⟨h1, h2⟩⟩
    · exact ⟨8, .inr (.inl ⟨h1, h2, rfl⟩), fun h => by cases h⟩
  · exact ⟨1, .inr (.inr ⟨h1, rfl⟩), fun h => by cases h⟩
theorem of_both {l : List Sp} {side : Int} {A : Option Addr} {c : Nat} : ∃ (zs : List Int) (er : Int),
    (∀ w, SpecsV w (.slice A l.length c) l → Calls Tryd.prog 6 #[.slice A l.length c, .int .i64 side] w (GivesI w zs er)) ∧
    (∀ w, SpecsV w (.slice A l.length c) l → Calls Tryd.prog 7 #[.slice A l.length c, .int .i64 side] w (GivesI w zs er)) := by
  by_cases hl : l.length ≤ 64
  · obtain ⟨z, hz, hz0⟩ := chk_ex l
    by_cases h0 : z = 0
    · obtain ⟨h1, h2⟩ := hz0 h0
      subst h0
      by_cases hs : side = 0 ∨ side = 1
      · by_cases hn : l.length = 0
        · refine ⟨[], 7, fun w hv => ?_, fun w hv => ?_⟩
          · have h := scheck_n hv hl hz
            rw [hn] at h ⊢
            exact eof_none hs h
          · have h := rcheck_n hv hl hz
            rw [hn] at h ⊢
            exact rof_none hs h
        · rcases hs with rfl | rfl
          · exact ⟨_, _, fun w hv => eof_ok0 hv hl (by omega) h1 h2, fun w hv => rof_ok0 hv hl (by omega) h1 h2⟩
          · exact ⟨_, _, fun w hv => eof_ok1 hv hl (by omega) h1 h2, fun w hv => rof_ok1 hv hl (by omega) h1 h2⟩
      · have hs' : side ≠ 0 ∧ side ≠ 1 := ⟨fun e => hs (.inl e), fun e => hs (.inr e)⟩
        exact ⟨_, _, fun w hv => eof_side hs' (scheck_n hv hl hz), fun w hv => rof_side hs' (rcheck_n hv hl hz)⟩
    · exact ⟨_, _, fun w hv => eof_err h0 (scheck_n hv hl hz), fun w hv => rof_err h0 (rcheck_n hv hl hz)⟩
  · exact ⟨_, _, fun w hv => eof_err (by decide) (scheck_full (by omega)), fun w hv => rof_err (by decide) (rcheck_full (by omega))⟩

set_option maxHeartbeats 8000000 in
theorem law_ELists {side : Int} {l : List Sp} {v : Value} {w : World} (hv : SpecsV w v l) (ht : Tab10 w) :
    Calls Tryd.prog 3 #[v, .int .i64 side] w (fun e w' => e = .returned (.bool true) ∧ Ext w w') := by
  obtain ⟨A, c, rfl, _⟩ := id hv
  have HT := Lib.hid (fun (w' : World) (h : Ext w w') => ht.ext h)
  have HV := Lib.hid (fun (w' : World) (h : Ext w w') => hv.below h)
  clear hv
  by_cases hl : l.length ≤ 80
  · have e0 : decide ((80 : Int) < (l.length : Int)) = false := decide_eq_false (by omega)
    have e0' : ¬ 80 < l.length := by omega
    obtain ⟨zs, er, C1, C2⟩ := of_both (l := l) (side := side) (A := A) (c := c)
    have H1 := Lib.hid C1
    have H2 := Lib.hid C2
    clear C1 C2
    go_enter Tryd.func3, Tryd.ntmps3
    go_wp2_with fail
    refine (eawake ht).mono ?_
    rintro e U0 ⟨rfl, V0⟩
    clear ht
    go_wp2_with fail
    refine (H1.out _ (HV.out _ V0)).mono ?_
    rintro e U1 ⟨A1, c1, rfl, hI1, y1, n1⟩
    have V1 := V0.trans y1
    have HI1 := Lib.hid (fun (w' : World) (h : Ext U1 w') => hI1.below h)
    clear hI1 n1
    go_wp2_with fail
    refine (H2.out _ (HV.out _ V1)).mono ?_
    rintro e U2 ⟨A2, c2, rfl, hI2, y2, n2⟩
    have HI2 := Lib.hid (fun (w' : World) (h : Ext U2 w') => hI2.below h)
    clear hI2 n2
    go_wp2_with (go_at_call 8; (with_reducible refine (bints_same (HI1.out _ y2) (HI2.out _ (Below.refl _ _))).mono ?_); rintro _ s1' ⟨rfl, z5⟩)
    go_ret
    exact ⟨rfl, V1.trans (y2.trans z5)⟩
  · have e0 : decide ((80 : Int) < (l.length : Int)) = true := decide_eq_true (by omega)
    have e0' : 80 < l.length := by omega
    go_enter Tryd.func3, Tryd.ntmps3
    go_wp2_with fail
    refine (eawake ht).mono ?_
    rintro e U0 ⟨rfl, V0⟩
    go_wp2_with fail
    refine (eawake (HT.out _ V0)).mono ?_
    rintro e U1 ⟨rfl, V1⟩
    go_wp2
    go_ret
    exact ⟨rfl, V0.trans V1⟩

end Go.Proofs.YtfnngchanhnaiaaDoor
