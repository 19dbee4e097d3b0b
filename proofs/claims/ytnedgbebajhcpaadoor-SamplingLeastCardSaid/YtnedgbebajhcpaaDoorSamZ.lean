/- sampling: Enough's answers, case by case. -/
import Derived.Test.YtnedgbebajhcpaaDoorSamQ
set_option linter.unusedVariables false
set_option linter.unusedSimpArgs false
set_option maxRecDepth 100000
namespace Go.Proofs.YtnedgbebajhcpaaDoor
open Go.RowKit Num

theorem first_spec {p : Nat → Bool} : ∀ k, (∀ i, i < firstN p k → p i = false) ∧ (firstN p k < k → p (firstN p k) = true)
  | 0 => ⟨fun i hi => absurd hi (Nat.not_lt_zero _), fun h => absurd h (Nat.lt_irrefl _)⟩
  | k + 1 => by
    obtain ⟨h1, h2⟩ := first_spec (p := p) k
    have h : firstN p (k + 1) = if firstN p k < k then firstN p k else if p k then k else k + 1 := rfl
    have hle := first_le (p := p) k
    rw [h]
    by_cases hlt : firstN p k < k
    · rw [if_pos hlt]
      exact ⟨h1, fun _ => h2 hlt⟩
    · have he : firstN p k = k := by omega
      rw [if_neg hlt]
      rw [he] at h1
      cases hp : p k with
      | true => exact ⟨h1, fun _ => hp⟩
      | false =>
        refine ⟨fun i hi => ?_, fun h => absurd h (Nat.lt_irrefl _)⟩
        have hi' : i < k + 1 := hi
        rcases Nat.lt_or_ge i k with h3 | h3
        · exact h1 i h3
        · obtain rfl : i = k := by omega
          exact hp
/-- What Enough answers for 1 to 60 dies. -/
def EnCase (E : Nat) (q : Rat) (vn ve : Int) : Prop :=
  (ve = 1 ∧ vn = 0 ∧ ¬ ShareIn q) ∨ (∃ N : Nat, N < 31 ∧ ve = 0 ∧ vn = (N : Int) ∧ enP E q N = true ∧ ∀ i, i < N → enP E q i = false) ∨ (ve = 7 ∧ vn = 0 ∧ ∀ i, i < 31 → enP E q i = false)
theorem enough_cases {E L : Nat} {q : Rat} (hE1 : 1 ≤ E) (hE : E ≤ 60) (hL1 : 1 ≤ L) (hL : L ≤ 1000) : ∃ vn ve : Int, EnCase E q vn ve ∧
    ∀ (w : World) (b : Bool) (s t : Value), AnyF w b s t q L → Tab10 w → Calls Tryd.prog 27 #[.int .i64 E, .agg #[.bool b, s, t]] w (fun e w' => e = .returned (.tuple #[.int .i64 vn, .int .i64 ve]) ∧ Ext w w') := by
  by_cases hq : ShareIn q
  · have hs := first_spec (p := enP E q) 31
    by_cases hN : enN E q < 31
    · refine ⟨(enN E q : Int), 0, .inr (.inl ⟨enN E q, hN, rfl, rfl, hs.2 hN, hs.1⟩), fun w b s t hx ht => ?_⟩
      have h := senough_ok (D := E) hx hL1 hL hq hE1 hE ht
      rw [if_pos hN, if_pos hN] at h
      exact h
    · have he : enN E q = 31 := by
        have h1 : enN E q ≤ 31 := first_le (p := enP E q) 31
        omega
      refine ⟨0, 7, .inr (.inr ⟨rfl, rfl, fun i hi => hs.1 i ?_⟩), fun w b s t hx ht => ?_⟩
      · have h2 : firstN (enP E q) 31 = 31 := he
        omega
      · have h := senough_ok (D := E) hx hL1 hL hq hE1 hE ht
        rw [if_neg hN, if_neg hN] at h
        exact h
  · exact ⟨0, 1, .inl ⟨rfl, rfl, hq⟩, fun w b s t hx ht => senough_arg (D := (E : Int)) hx hL hq⟩

end Go.Proofs.YtnedgbebajhcpaaDoor
