/- occupancy's awake; numbers within the limits. -/
import Derived.Test.YtnedgbebajhcpaaDoorOcB
set_option linter.unusedVariables false
set_option linter.unusedSimpArgs false
set_option maxRecDepth 100000
namespace Go.Proofs.YtnedgbebajhcpaaDoor
open Go.RowKit Num

theorem ch322v : pchI 3 2 2 = mkRat 3 4 := by decide +kernel
theorem mean32v : meanQ 3 2 = mkRat 7 4 := by decide +kernel
theorem t34 : (ByteArray.mk (ftxt 3 4).toArray) = ⟨#[51, 47, 52]⟩ := by simp [ftxt, Lib.decDigits]
theorem t74 : (ByteArray.mk (ftxt 7 4).toArray) = ⟨#[55, 47, 52]⟩ := by simp [ftxt, Lib.decDigits]
theorem m34 : (mkRat 3 4).num = 3 ∧ (mkRat 3 4).den = 4 := by decide
theorem m74 : (mkRat 7 4).num = 7 ∧ (mkRat 7 4).den = 4 := by decide
theorem fb34 : FB (mkRat 3 4) 1 := ⟨by rw [m34.1]; show (limbsOf 3).length ≤ 1; rw [limbsOf_one (by omega) (by omega)]; simp, by rw [m34.2]; rw [limbsOf_one (by omega) (by omega)]; simp⟩
theorem fb74 : FB (mkRat 7 4) 1 := ⟨by rw [m74.1]; show (limbsOf 7).length ≤ 1; rw [limbsOf_one (by omega) (by omega)]; simp, by rw [m74.2]; rw [limbsOf_one (by omega) (by omega)]; simp⟩
theorem ch322 {w : World} : Calls Tryd.prog 28 #[.int .i64 3, .int .i64 2, .int .i64 2] w (GivesFE w (mkRat 3 4)) := by
  have h := ochance_ok (n := 3) (D := 2) (d := 2) (w := w) (by omega) (by omega) (by omega)
  rw [ch322v] at h
  exact h
theorem mean32 {w : World} (ht : Tab10 w) : Calls Tryd.prog 11 #[.int .i64 3, .int .i64 2] w (GivesFE w (mkRat 7 4)) := by
  have h := omean_ok (n := 3) (D := 2) (w := w) (by omega) (by omega) (by omega) ht
  rw [mean32v] at h
  exact h

/-- Numbers within the limits. -/
def GivesNum (w : World) (e : Ending) (w' : World) : Prop := ∃ m k : Nat, (m ≤ 30 ∧ k ≤ 59) ∧ e = .returned (.tuple #[.int .i64 m, .int .i64 ((k : Int) + 1)]) ∧ w' = w
end Go.Proofs.YtnedgbebajhcpaaDoor
