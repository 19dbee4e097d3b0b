/- trim. -/
import Derived.Test.YtkjcbfaimonaoaaDoorProg
import Derived.Test.YtkjcbfaimonaoaaDoorRep
namespace Go.Proofs.YtkjcbfaimonaoaaDoor
open Go.RowKit Num

theorem trimL_take_zero (xs : List Nat) (k : Nat) (hk : k < xs.length) (h : xs[k] = 0) : trimL (xs.take (k + 1)) = trimL (xs.take k) := by
  rw [List.take_succ_eq_append_getElem hk, h, trimL_snoc_zero]
theorem trimL_take_pos (xs : List Nat) (k : Nat) (hk : k < xs.length) (h : xs[k] ≠ 0) : (trimL (xs.take (k + 1))).length = k + 1 := by
  rw [List.take_succ_eq_append_getElem hk, trimL_snoc_pos _ _ h]; simp; omega

set_option maxHeartbeats 400000 in
theorem trim_any (A : Option Addr) (n cap : Nat) (xs : List Nat) (w : World) (hr : Reads w 1 A n (u32s xs)) (hc : n ≤ cap) (hm : cap ≤ 9223372036854775807) :
    Calls Tryd.prog 91 #[.slice A n cap] w fun e w' => e = .returned (.slice A (trimL xs).length cap) ∧ w = w' := by
  have hl : xs.length = n := by simpa [u32s] using hr.1
  go_enter Tryd.func91, Tryd.ntmps91
  go_wp2
  go_loop [0] (fun v => ∃ k : Nat, k ≤ n ∧ v = .slice A k cap ∧ trimL (xs.take k) = trimL xs) (fun v => lenOf v)
  case atStart => exact ⟨n, Nat.le_refl _, rfl, by rw [← hl, List.take_length]⟩
  case round =>
    obtain ⟨k, hk, rfl, ht⟩ := hrel
    cases k with
    | zero =>
      go_wp2
      go_ret
      exact ⟨by rw [← ht]; rfl, rfl⟩
    | succ k =>
      have hkl : k < xs.length := by omega
      obtain ⟨ad, u, rfl, hb, hu, hcell⟩ := hr.at_ (k := k) (by omega)
      have hu2 : u = .int .u32 (xs[k] : Int) := by simpa [u32s, hkl] using hu.symm
      subst hu2
      clear hu
      by_cases h0 : xs[k] = 0
      · have hb0 : ((xs[k] : Int) == 0) = true := by simp [h0]
        go_wp2
        go_round
        case rel => exact ⟨k, by omega, by go_num, by rw [← ht, trimL_take_zero xs k hkl h0]⟩
        case measure => simp [lenOf]
      · have hb0 : ((xs[k] : Int) == 0) = false := by simpa using h0
        go_wp2
        go_ret
        exact ⟨ret_slice (by rw [← ht, trimL_take_pos xs k hkl h0]), rfl⟩

theorem trim_u {v : Value} {xs : List Nat} {w w0 : World} (hv : U32s w0 v xs) (hx : Ext w0 w) (hd : Digs xs) :
    Calls Tryd.prog 91 #[v] w fun e w' => ∃ v', e = .returned v' ∧ CanV w0 v' (val xs) ∧ w = w' ∧ v'.ownBlock = v.ownBlock := by
  obtain ⟨A, cap, rfl, h2, h3, h4⟩ := hv
  refine (trim_any A _ cap xs w (h4.below hx) h2 h3).mono ?_
  rintro e w' ⟨rfl, rfl⟩
  refine ⟨_, rfl, ?_, rfl, by cases A <;> rfl⟩
  have hl := trimL_length_le xs
  unfold CanV
  rw [← trimL_canon hd]
  refine ⟨A, cap, rfl, by omega, h3, ?_⟩
  have := h4.take_ hl
  rwa [u32s_take, ← trimL_prefix] at this

end Go.Proofs.YtkjcbfaimonaoaaDoor
