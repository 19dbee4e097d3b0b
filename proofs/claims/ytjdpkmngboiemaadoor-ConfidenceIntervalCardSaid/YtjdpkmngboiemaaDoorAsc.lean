/- The walk of Ascending. -/
import Derived.Test.YtjdpkmngboiemaaDoorConL
set_option linter.unusedVariables false
set_option linter.unusedSimpArgs false
set_option maxRecDepth 100000
namespace Go.Proofs.YtjdpkmngboiemaaDoor
open Go.RowKit Num

set_option maxHeartbeats 4000000 in
theorem lascend {zs : List Int} {A : Option Addr} {c : Nat} {low high : Int} {w : World} (hv : IntsV w (.slice A zs.length c) zs) (hn : zs.length ≤ 1000000)
    (hz : ∀ k, k < zs.length → low ≤ zs.getD k 0 ∧ zs.getD k 0 ≤ high) (ho : ∀ k, k + 1 < zs.length → zs.getD k 0 < zs.getD (k + 1) 0) :
    Calls Tryd.prog 22 #[.slice A zs.length c, .int .i64 low, .int .i64 high] w (fun e w' => e = .returned (.bool true) ∧ Ext w w') := by
  have HV := Lib.hid (fun (w' : World) (h : Ext w w') => hv.below h)
  have HZ := Lib.hid hz
  have HO := Lib.hid ho
  clear hv hz ho
  go_enter Tryd.func22, Tryd.ntmps22
  go_wp2
  go_loopw [7] (fun iv wr => ∃ k : Nat, k ≤ zs.length ∧ iv = .int .i64 k ∧ Ext w wr) (fun iv _ => zs.length - (intOf iv).toNat)
  case atStart => exact ⟨0, Nat.zero_le _, rfl, Below.refl _ _⟩
  case round =>
    obtain ⟨k, hk, rfl, hx⟩ := hrel
    by_cases hkn : k < zs.length
    · obtain ⟨b, o, rfl, hb, hc⟩ := (HV.out _ hx).plC hkn
      obtain ⟨h1, h2⟩ := HZ.out k hkn
      obtain ⟨x, hx'⟩ : ∃ x, x = zs.getD k 0 := ⟨_, rfl⟩
      rw [← hx'] at hc h1 h2
      have e1 : decide (x < low) = false := decide_eq_false (by omega)
      have e2 : decide (high < x) = false := decide_eq_false (by omega)
      have hi1 : (0 : Int) ≤ (k : Int) := by omega
      have hi2 : (k : Int) < (zs.length : Int) := by omega
      rcases Nat.eq_zero_or_pos k with h0 | h0
      · subst h0
        have hi3 : (0 : Int) < (zs.length : Int) := by omega
        rw [Nat.add_zero] at hc
        clear h1 h2 hx'
        go_wp2
        go_quiet (fail)
        go_wp2
        go_roundw
        case rel => exact ⟨1, by omega, by go_num, hx.drewN _⟩
        case measure => simp [intOf]; omega
      · obtain ⟨j, rfl⟩ : ∃ j, k = j + 1 := ⟨k - 1, by omega⟩
        obtain ⟨b2, o2, he, hb2, hc2⟩ := (HV.out _ hx).plC (k := j) (by omega)
        obtain ⟨rfl, rfl⟩ : b = b2 ∧ o = o2 := by
          injection he with he
          injection he with he1 he2
          exact ⟨he1, he2⟩
        have h3 := HO.out j hkn
        obtain ⟨y, hy'⟩ : ∃ y, y = zs.getD j 0 := ⟨_, rfl⟩
        rw [← hx', ← hy'] at h3
        rw [← hy'] at hc2
        have e3 : decide (x ≤ y) = false := decide_eq_false (by omega)
        have e4 : decide (0 < (j : Int) + 1) = true := decide_eq_true (by omega)
        have hcap : (zs.length : Int) ≤ 1000000 := by omega
        have hj1 : (0 : Int) ≤ (j : Int) + 1 := by omega
        have hj2 : (j : Int) + 1 < (zs.length : Int) := by omega
        have hw1 : IntKind.i64.wrap ((j : Int) + 1 - 1) = (j : Int) := by rw [wrap_in (by omega)]; omega
        have hw2 : IntKind.i64.wrap ((j : Int) + 1 + 1) = (j : Int) + 1 + 1 := wrap_in (by omega)
        have hi3 : (0 : Int) ≤ (j : Int) := by omega
        have hi4 : (j : Int) < (zs.length : Int) := by omega
        clear h1 h2 h3 hx' hy' h0
        go_wp2
        go_quiet (fail)
        go_wp2
        go_roundw
        case rel => exact ⟨j + 2, by omega, by go_num, hx.drewN _⟩
        case measure => simp [intOf]; omega
    · go_wp2
      go_ret
      exact ⟨rfl, hx⟩

end Go.Proofs.YtjdpkmngboiemaaDoor
