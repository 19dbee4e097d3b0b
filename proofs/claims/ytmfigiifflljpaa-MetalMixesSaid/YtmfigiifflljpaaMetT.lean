/- metal: Det. -/
import Derived.Test.YtmfigiifflljpaaMetF
import Derived.Test.YtmfigiifflljpaaMetD
set_option linter.unusedVariables false
set_option linter.unusedSimpArgs false
set_option maxRecDepth 100000
namespace Go.Proofs.Ytmfigiifflljpaa
open Go.RowKit Num

/-- A box whose numbers lie behind B. -/
def FId (B : Nat) (w : World) (b : Nat) (q : Rat) : Prop := ∃ c A k l A' k' l', FBox w b (.bool c) (.slice A k l) (.slice A' k' l') ∧ FracV w c (.slice A k l) (.slice A' k' l') q ∧ New B (.slice A k l) ∧ New B (.slice A' k' l')
section
variable {B b : Nat} {w w' : World} {q : Rat} {v : Value} {us : List Value}
theorem FId.ext (h : FId B w b q) (hE : Ext w w') : FId B w' b q := by
  obtain ⟨c, A, k, l, A', k', l', h1, h2, h3, h4⟩ := h
  exact ⟨c, A, k, l, A', k', l', h1.below hE, h2.below hE, h3, h4⟩
theorem FId.fr (h : FId B w b q) (hb : BlkLt B v us) (hB : B ≤ b) (hf : Fr v us w w') : FId B w' b q := by
  obtain ⟨c, A, k, l, A', k', l', h1, h2, h3, h4⟩ := h
  have h5 := (Ent.fr (K := true) (.inl h2) hf (hb.avd h3) (hb.avd h4)).can
  exact ⟨c, A, k, l, A', k', l', h1.fr hf (hb.not hB), h5, h3, h4⟩
end
def dlm (S : Mx) (c : Nat) : Mx := fun i j => if c < i ∧ c ≤ j then S i j - S i c / S c c * S c j else S i j
theorem stepD_dlm (M : Mx) (c p : Nat) : stepD M c p = dlm (swp M c p) c := by
  funext i j
  unfold stepD dlm
  rw [show swp M c p c = M p from by rw [swp_at, if_pos rfl]]
theorem swp_comm (M : Mx) (c p : Nat) : swp M p c = swp M c p := by
  funext i
  rw [swp_at, swp_at]
  by_cases h1 : i = p
  · by_cases h2 : i = c
    · rw [if_pos h1, if_pos h2, ← h1, ← h2]
    · rw [if_pos h1, if_neg h2, if_pos h1]
  · rw [if_neg h1]
    by_cases h2 : i = c
    · rw [if_pos h2, if_pos h2]
    · rw [if_neg h2, if_neg h2, if_neg h1]
theorem swp_same (M : Mx) (c : Nat) : swp M c c = M := by
  funext i
  rw [swp_at]
  by_cases h : i = c
  · rw [if_pos h, h]
  · rw [if_neg h, if_neg h]
def mid1 (S : Mx) (c i j : Nat) : Mx := fun i' j' => if i' = i ∧ j' < j then dlm S c i' j' else if i' < i then dlm S c i' j' else S i' j'
theorem mid1_start {S : Mx} {c i : Nat} {i' j' : Nat} : (if i' < i then dlm S c i' j' else S i' j') = mid1 S c i c i' j' := by
  unfold mid1
  by_cases h : i' = i ∧ j' < c
  · rw [if_pos h, if_neg (by omega)]
    unfold dlm
    rw [if_neg (by omega)]
  · rw [if_neg h]
theorem mid1_upd {S : Mx} {c i j : Nat} (hi : c < i) (hj : c ≤ j) {i' j' : Nat} : (if i' = i ∧ j' = j then S i j - S i c / S c c * S c j else mid1 S c i j i' j') = mid1 S c i (j + 1) i' j' := by
  unfold mid1
  by_cases h1 : i' = i
  · by_cases h2 : j' = j
    · rw [if_pos ⟨h1, h2⟩, if_pos ⟨h1, by omega⟩]
      unfold dlm
      rw [h1, h2, if_pos ⟨hi, hj⟩]
    · rw [if_neg (fun h => h2 h.2)]
      by_cases h3 : j' < j
      · rw [if_pos ⟨h1, h3⟩, if_pos ⟨h1, by omega⟩]
      · rw [if_neg (fun h => h3 h.2), if_neg (show ¬ (i' = i ∧ j' < j + 1) from fun h => by have := h.2; omega)]
  · rw [if_neg (fun h => h1 h.1), if_neg (fun h => h1 h.1), if_neg (show ¬ (i' = i ∧ j' < j + 1) from fun h => h1 h.1)]
theorem mid1_done {S : Mx} {c i n i' j' : Nat} (hj : j' < n) : mid1 S c i n i' j' = if i' < i + 1 then dlm S c i' j' else S i' j' := by
  unfold mid1
  by_cases h1 : i' = i
  · rw [if_pos ⟨h1, hj⟩, if_pos (by omega)]
  · rw [if_neg (fun h => h1 h.1)]
    by_cases h2 : i' < i
    · rw [if_pos h2, if_pos (by omega)]
    · rw [if_neg h2, if_neg (by omega)]
theorem mid1_own {S : Mx} {c i j : Nat} (hi : c < i) : mid1 S c i j i j = S i j ∧ mid1 S c i j c j = S c j := by
  unfold mid1
  refine ⟨?_, ?_⟩
  · rw [if_neg (by omega), if_neg (by omega)]
  · rw [if_neg (by omega), if_pos hi]
    unfold dlm
    rw [if_neg (by omega)]
theorem dlm_first {S : Mx} {c i : Nat} : (if i < c + 1 then dlm S c i else S i) = S i := by
  split
  · funext j
    unfold dlm
    rw [if_neg (by omega)]
  · rfl
theorem fbm_dlm {S : Mx} {n c L : Nat} (h : FBm S n n L) (h1 : 1 ≤ L) (hc : c < n) : FBm (dlm S c) n n (5 * L) := fun i j hi hj => by
  unfold dlm
  split
  · exact (FB.sub (h i j hi hj) (FB.mul (FB.div (h i c hi hc) (h c c hc hc) h1 h1) (h c j hc hj) (by omega)) h1).mono (by omega)
  · exact (h i j hi hj).mono (by omega)
theorem pow5_le {c n L : Nat} (hc : c ≤ n) (hn : n ≤ 8) (hL : L ≤ 1000) : 5 ^ c * L ≤ 390625000 := by
  have h1 : 5 ^ c ≤ 5 ^ 8 := Nat.pow_le_pow_right (by decide) (by omega)
  exact Nat.mul_le_mul h1 hL
theorem dlm_start {S : Mx} {c i' j' : Nat} : S i' j' = if i' < c + 1 + 0 then dlm S c i' j' else S i' j' := by
  split
  · unfold dlm
    rw [if_neg (by omega)]
  · rfl
theorem dlm_row {S : Mx} {c r j : Nat} : (if c < c + 1 + r then dlm S c c j else S c j) = S c j := by
  rw [if_pos (by omega)]
  unfold dlm
  rw [if_neg (by omega)]
theorem dlm_all {S : Mx} {c m n i' j' : Nat} (h : n = c + 1 + m) (hi : i' < n) : (if i' < c + 1 + m then dlm S c i' j' else S i' j') = dlm S c i' j' := if_pos (by omega)
/-- A step of the elimination. -/
theorem det_step {M S : Mx} {n c p : Nat} {acc D a' : Rat} (hc : c < n) (hpn : p < n) (h : acc * det (n - c) (tail M c) = D) (hp : p = piv M n c c) (hS : S = swp M c p) (ha : a' = if p = c then acc else -acc) : a' * S c c * det (n - (c + 1)) (tail (dlm S c) (c + 1)) = D := by
  subst hS ha
  have h1 := stepD_yes hc h (by omega)
  rw [← hp, stepD_dlm] at h1
  rw [show swp M c p c c = M p c from by rw [swp_at, if_pos rfl]]
  exact h1

end Go.Proofs.Ytmfigiifflljpaa
