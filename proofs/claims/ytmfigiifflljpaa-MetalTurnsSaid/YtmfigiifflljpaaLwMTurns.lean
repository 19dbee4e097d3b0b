/- law: MetalTurns. -/
import Derived.Test.YtmfigiifflljpaaMetV
import Derived.Test.YtmfigiifflljpaaMetJ
set_option linter.unusedVariables false
set_option linter.unusedSimpArgs false
set_option maxRecDepth 100000
namespace Go.Proofs.Ytmfigiifflljpaa
open Go.RowKit Num

set_option maxHeartbeats 8000000 in
theorem law_MTurns {v : Value} {z : Nat × (Nat → Nat) × (Nat → Nat → FracIn)} {w : World} (hv : InMat w v z.1 z.2.1 z.2.2) :
    Calls Try.prog 7 #[v] w (fun e w' => e = .returned (.bool true) ∧ Ext w w') := by
  obtain ⟨n, len, F⟩ := z
  simp only at hv
  have HV := Lib.hid (fun (w' : World) (h : Ext w w') => hv.below h)
  have HFW := Lib.hid (fun (w' : World) (h : Ext w w') => rfew_l (hv.below h))
  have HVL := Lib.hid (fun (w' : World) (h : Ext w w') => rvalid_l (hv.below h).lens)
  obtain ⟨A, cap, rfl, hc1, hc2⟩ := hv.form
  clear hv
  by_cases hf : fewM n len F
  · by_cases hvl : validL (lensOf n len)
    · obtain ⟨hn4, c, hc4, hz, hl, hs, _⟩ := few_valid hf hvl
      have HE := Lib.hid (fun (w' : World) (h : Ext w w') => ((HV.out w' h).emat hl hs).1)
      have hfb := ((HV.out w (Below.refl _ _)).emat hl hs).2
      obtain ⟨M, hM⟩ : ∃ M : Mx, M = fun i j => fxQ (F i j) := ⟨_, rfl⟩
      rw [← hM] at HE hfb
      have HFB := Lib.hid hfb
      rw [decide_eq_true hvl] at HVL
      have HF := Lib.hid hf
      have hfbT : FBm (fun i j => M j i) (if c = 0 then 0 else c) (if c = 0 then 0 else n) 3 := fun i j hi hj => by
        by_cases h0 : c = 0
        · rw [if_pos h0] at hi; omega
        · rw [if_neg h0] at hi hj; exact hfb j i hj hi
      have hrk : rk (fun i j => M j i) (if c = 0 then 0 else c) (if c = 0 then 0 else n) = rk M n c := by
        by_cases h0 : c = 0
        · rw [if_pos h0, if_pos h0, h0]
          exact (Nat.le_zero.1 (rk_le _ _ _).2).trans (Nat.le_zero.1 (rk_le M n 0).2).symm
        · rw [if_neg h0, if_neg h0]
          exact rk_turned M n c
      have HR := Lib.hid (fun (w' : World) (t : Value) (ht : EMat false w' t c n (fun i j => M j i)) => show Calls Try.prog 13 #[t] w' (fun e w'' => e = .returned (.tuple #[.int .i64 (rk M n c : Int), .int .i64 0]) ∧ Ext w' w'') from by
        have ht' : EMat false w' t (if c = 0 then 0 else c) (if c = 0 then 0 else n) (fun i j => M j i) := by
          by_cases h0 : c = 0
          · rw [if_pos h0, if_pos h0]
            subst h0
            obtain ⟨a1, a2, a3, a4, a5, a6, a7, a8⟩ := ht
            refine ⟨a1, a2, a3, a4, a5, a6, a7, fun j u hu => ?_⟩
            have h1 := (List.getElem?_eq_some_iff.1 hu).1
            have h2 := a7.1
            omega
          · rw [if_neg h0, if_neg h0]; exact ht
        have h1 := mrank_ok ht' (Nat.le_refl 3) (by omega) hfbT (by split <;> omega) (by split <;> omega) (fun h => by split at h <;> split <;> omega)
        rw [hrk] at h1
        exact h1)
      obtain ⟨r, hr⟩ : ∃ r, r = rk M n c := ⟨_, rfl⟩
      have HRK := Lib.hid (fun (w' : World) (h : Ext w w') => mrank_ok (HE.out w' h) (Nat.le_refl 3) (by omega) hfb (by omega) (by omega) hz)
      have HTU := Lib.hid (fun (w' : World) (h : Ext w w') => rturned_n (HE.out w' h) (by omega) (by omega) hz)
      rw [← hr] at HR HRK
      have hrr : ((r : Int) == (r : Int)) = true := by simp
      clear hf hvl hl hs hz hfb hfbT hrk hM hr
      go_enter Try.func7, Try.ntmps7
      go_wp2_with (first
        | (go_at_call 11; (with_reducible refine awake_t.mono ?_); rintro e w1 ⟨rfl, x1⟩)
        | (go_at_call 12; (with_reducible refine (HFW.out _ x1).mono ?_); rintro e w2 hgb; obtain ⟨rfl, x2⟩ := hgb.t HF.out)
        | (go_at_call 22; (with_reducible refine (HVL.out _ (x1.trans x2)).mono ?_); rintro e w3 ⟨rfl, x3⟩)
        | (go_at_call 33; (with_reducible refine (HTU.out _ ((x1.trans x2).trans (x3.trans x4))).mono ?_); rintro e w5 ⟨A5, c5, rfl, h5, x5⟩)
        | (go_at_call 13; (with_reducible refine (HR.out _ _ h5).mono ?_); rintro e w6 ⟨rfl, x6⟩)
        | (go_at_call 13; (with_reducible refine (HRK.out _ ((x1.trans x2).trans x3)).mono ?_); rintro e w4 ⟨rfl, x4⟩))
      go_ret
      exact ⟨rfl, ((x1.trans x2).trans (x3.trans x4)).trans (x5.trans x6)⟩
    · rw [decide_eq_false hvl] at HVL
      have HF := Lib.hid hf
      clear hf hvl
      go_enter Try.func7, Try.ntmps7
      go_wp2_with (first
        | (go_at_call 12; (with_reducible refine (HFW.out _ x1).mono ?_); rintro e w2 hgb; obtain ⟨rfl, x2⟩ := hgb.t HF.out)
        | (go_at_call 22; (with_reducible refine (HVL.out _ (x1.trans x2)).mono ?_); rintro e w3 ⟨rfl, x3⟩)
        | (go_at_call 11; (with_reducible refine awake_t.mono ?_); rintro e w4 ⟨rfl, x4⟩; have y4 := x3.trans x4)
        | (go_at_call 11; (with_reducible refine awake_t.mono ?_); rintro e w1 ⟨rfl, x1⟩))
      go_ret
      exact ⟨rfl, (x1.trans x2).trans y4⟩
  · have HF := Lib.hid hf
    clear hf
    go_enter Try.func7, Try.ntmps7
    go_wp2_with (first
      | (go_at_call 12; (with_reducible refine (HFW.out _ x1).mono ?_); rintro e w2 hgb; obtain ⟨rfl, x2⟩ := hgb.f HF.out)
      | (go_at_call 11; (with_reducible refine awake_t.mono ?_); rintro e w4 ⟨rfl, x4⟩; have y4 := x2.trans x4)
      | (go_at_call 11; (with_reducible refine awake_t.mono ?_); rintro e w1 ⟨rfl, x1⟩))
    go_ret
    exact ⟨rfl, x1.trans y4⟩

end Go.Proofs.Ytmfigiifflljpaa
