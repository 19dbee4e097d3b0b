/- fraction.Sum. -/
import Derived.Test.YtnedgbebajhcpaaDoorFrlA
import Derived.Test.YtnedgbebajhcpaaDoorOcB
set_option linter.unusedVariables false
set_option linter.unusedSimpArgs false
set_option maxRecDepth 100000
namespace Go.Proofs.YtnedgbebajhcpaaDoor
open Go.RowKit Num

/-- A box that is written in a loop: a canonical fraction. -/
def FIs (W wr : World) (b : Nat) (q : Rat) : Prop := ∃ c A k l A' k' l', FBox wr b (.bool c) (.slice A k l) (.slice A' k' l') ∧ FracV wr c (.slice A k l) (.slice A' k' l') q ∧ Ext W wr ∧ New W.heap.size (.slice A k l) ∧ New W.heap.size (.slice A' k' l')
theorem zero_first : ((0 : Int) : Rat) / ((1 : Int) : Rat) = 0 := by decide +kernel
theorem sumQ_fb {f : Nat → Rat} {L : Nat} : ∀ {n : Nat}, (∀ k, k < n → FB (f k) L) → FB (sumQ f n) (3 + (L + 1) * n)
  | 0, _ => by
    have h : FB (((0 : Int) : Rat) / ((1 : Int) : Rat)) 3 := fb_i64 (by omega) (by omega)
    rw [zero_first] at h
    exact h.mono (by omega)
  | n + 1, h => by
    have h1 := sumQ_fb (n := n) fun k hk => h k (by omega)
    have h2 := FB.add h1 (h n (by omega)) (by omega)
    exact h2.mono (by rw [Nat.mul_succ]; omega)

end Go.Proofs.YtnedgbebajhcpaaDoor
