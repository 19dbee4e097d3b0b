/- ref42: Valid, f, total, Frequencies. ref42: Index. ref42: Frequencies. ref42: errors of Coverage, Chao, Jackknife, Carter; Coverage, Carter. -/
import Derived.Test.YtfnngchanhnaiaaDoorEst
import Derived.Test.YtfnngchanhnaiaaDoorRFrac
import Derived.Deep.RegionHeld3
import Derived.Deep.RegionLaw
import Derived.Test.YtfnngchanhnaiaaDoorNatural
set_option linter.unusedVariables false
set_option linter.unusedSimpArgs false
set_option maxRecDepth 100000
namespace Go.Proofs.YtfnngchanhnaiaaDoor
open Go.RowKit Num

theorem bin_t {z a b : Int} {w : World} (h : a ≤ z ∧ z ≤ b) : Calls Tryd.prog 18 #[.int .i64 z, .int .i64 a, .int .i64 b] w (fun e w' => e = .returned (.bool true) ∧ w' = w) := by
  obtain ⟨h1, h2⟩ := h
  go_enter Tryd.func18, Tryd.ntmps18
  go_wp2
  go_ret
  exact ⟨rfl, rfl⟩
theorem bin_f {z a b : Int} {w : World} (h : ¬ (a ≤ z ∧ z ≤ b)) : Calls Tryd.prog 18 #[.int .i64 z, .int .i64 a, .int .i64 b] w (fun e w' => e = .returned (.bool false) ∧ w' = w) := by
  have h' : ¬ a ≤ z ∨ (a ≤ z ∧ ¬ z ≤ b) := by omega
  rcases h' with h' | ⟨h1, h'⟩
  all_goals
    go_enter Tryd.func18, Tryd.ntmps18
    go_wp2
    go_ret
    exact ⟨rfl, rfl⟩

def GivesV (P : Prop) (w : World) (e : Ending) (w' : World) : Prop := (P ∧ e = .returned (.bool true) ∨ ¬ P ∧ e = .returned (.bool false)) ∧ w' = w

end Go.Proofs.YtfnngchanhnaiaaDoor
namespace Go.Proofs.YtfnngchanhnaiaaDoor
open Go.RowKit Num

end Go.Proofs.YtfnngchanhnaiaaDoor
namespace Go.Proofs.YtfnngchanhnaiaaDoor
open Go.RowKit Num

theorem frq_snoc (zs : List Int) (m k : Nat) : frq zs (m + 1) k = frq zs m k ++ [(((zs.take k).count ((m : Int) + 1) : Nat) : Int)] := by
  simp [frq, List.range_succ]
def mxUp (zs : List Int) (i : Nat) : Int := if i = 0 then 0 else Lib.maxOf (zs.take i)
theorem mxUp_succ {zs : List Int} {i : Nat} (h : i < zs.length) (hz : 1 ≤ zs.getD i 0) : mxUp zs (i + 1) = max (mxUp zs i) (zs.getD i 0) := by
  unfold mxUp
  rw [if_neg (by omega)]
  rcases Nat.eq_zero_or_pos i with e | e
  · subst e
    rw [Lib.maxOf_one, if_pos rfl]
    omega
  · rw [if_neg (by omega), Lib.maxOf_step zs i e h]

end Go.Proofs.YtfnngchanhnaiaaDoor
namespace Go.Proofs.YtfnngchanhnaiaaDoor
open Go.RowKit Num

end Go.Proofs.YtfnngchanhnaiaaDoor
