/- estimator: one, Coverage, Good. -/
import Derived.Test.YtkjcbfaimonaoaaDoorEstF
import Derived.Deep.DeepCutAuto
set_option linter.unusedVariables false
set_option linter.unusedSimpArgs false
set_option maxRecDepth 100000
namespace Go.Proofs.YtkjcbfaimonaoaaDoor
open Go.RowKit Num

/-- How many dies were seen k times. -/
def seen (zs : List Int) (k : Nat) : Nat := zs.count (k : Int)
theorem seen_one {zs : List Int} (hs : Samp zs) : (freqs zs).getD 0 0 = (seen zs 1 : Int) := by
  obtain ⟨_, m2, _⟩ := hs.most
  unfold freqs seen
  rw [frq_getD (by omega), List.take_length]
  rfl

theorem one_ok {zs : List Int} {n d : Value} {A : Option Addr} {c : Nat} {w : World} (hI : IntsV w (.slice A (mostOf zs) c) (freqs zs)) (hs : Samp zs) :
    Calls Tryd.prog 45 #[.agg #[n, d, .slice A (mostOf zs) c]] w (fun e w' => e = .returned (.int .i64 (seen zs 1)) ∧ Ext w w') := by
  obtain ⟨_, m2, m3, _⟩ := hs.most
  have x0 : Ext w (w.alloc (.cells #[n, d, .slice A (mostOf zs) c] 52)) := ext_alloc (Below.refl _ _) _
  obtain ⟨b, o, rfl, hcs⟩ := (hI.below x0).plain (by rw [freqs_length]; omega)
  have hc := hcs 0 (by rw [freqs_length]; omega)
  rw [seen_one hs, Nat.add_zero] at hc
  generalize seen zs 1 = k at *
  generalize mostOf zs = m at *
  have hm : (0 : Int) < m := by omega
  go_enter Tryd.func45, Tryd.ntmps45
  go_wp2
  go_ret
  exact ⟨rfl, x0⟩

end Go.Proofs.YtkjcbfaimonaoaaDoor
