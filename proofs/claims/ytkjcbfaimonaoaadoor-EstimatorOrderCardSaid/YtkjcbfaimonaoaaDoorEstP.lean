/- Samples: sums over the frequencies; what does not depend on the order. No program is walked here. -/
import Derived.Test.YtkjcbfaimonaoaaDoorEst
set_option linter.unusedVariables false
set_option linter.unusedSimpArgs false
namespace Go.Proofs.YtkjcbfaimonaoaaDoor
open Num

/-- The sum over the first m frequencies, each times a weight. -/
def wsum (g : Nat → Int) (zs : List Int) : Nat → Int
  | 0 => 0
  | m + 1 => wsum g zs m + g m * ((zs.count ((m : Int) + 1) : Nat) : Int)
theorem wsum_nil (g : Nat → Int) : ∀ m, wsum g [] m = 0
  | 0 => rfl
  | m + 1 => by simp [wsum, wsum_nil g m]
theorem wsum_cons (g : Nat → Int) {z : Int} (zs : List Int) (hz : 1 ≤ z) : ∀ m : Nat, wsum g (z :: zs) m = wsum g zs m + (if z ≤ m then g (z - 1).toNat else 0)
  | 0 => by rw [if_neg (by omega)]; simp [wsum]
  | m + 1 => by
    simp only [wsum]
    rw [wsum_cons g zs hz m, List.count_cons]
    by_cases h1 : z ≤ m
    · have a : (z == (m : Int) + 1) = false := by simp; omega
      rw [if_pos h1, a, if_pos (show z ≤ ((m + 1 : Nat) : Int) from by omega)]
      simp only [Bool.false_eq_true, if_false, Nat.add_zero]
      omega
    · by_cases h2 : z = (m : Int) + 1
      · have a : (z == (m : Int) + 1) = true := by simp [h2]
        rw [if_neg h1, a, if_pos (show z ≤ ((m + 1 : Nat) : Int) from by omega), show (z - 1).toNat = m from by omega]
        simp only [if_true]
        rw [Int.natCast_add, Int.mul_add]
        omega
      · have a : (z == (m : Int) + 1) = false := by simp; omega
        rw [if_neg h1, a, if_neg (show ¬ z ≤ ((m + 1 : Nat) : Int) from by omega)]
        simp only [Bool.false_eq_true, if_false, Nat.add_zero]
        omega
theorem wsum_all (g : Nat → Int) {m : Nat} : ∀ {zs : List Int}, (∀ z ∈ zs, 1 ≤ z ∧ z ≤ (m : Int)) → wsum g zs m = (zs.map fun z => g (z - 1).toNat).sum
  | [], _ => by simp [wsum_nil]
  | z :: zs, h => by
    have hz := h z (by simp)
    rw [wsum_cons g zs hz.1 m, if_pos hz.2, wsum_all g fun y hy => h y (by simp [hy])]
    simp
    omega
theorem wsum_le {g : Nat → Int} {zs : List Int} {G : Int} (hl : zs.length ≤ 64) (hG : 0 ≤ G) : ∀ {m : Nat}, (∀ j, j < m → 0 ≤ g j ∧ g j ≤ G) → 0 ≤ wsum g zs m ∧ wsum g zs m ≤ (m : Int) * (G * 64)
  | 0, _ => by simp [wsum]
  | m + 1, h => by
    have ih := wsum_le hl hG (m := m) fun j hj => h j (by omega)
    have hc : zs.count ((m : Int) + 1) ≤ 64 := Nat.le_trans List.count_le_length hl
    have hg := h m (by omega)
    have p1 : 0 ≤ g m * ((zs.count ((m : Int) + 1) : Nat) : Int) := Int.mul_nonneg hg.1 (by omega)
    have p2 : g m * ((zs.count ((m : Int) + 1) : Nat) : Int) ≤ G * 64 := Int.mul_le_mul hg.2 (by omega) (by omega) hG
    simp only [wsum]
    have e : ((m + 1 : Nat) : Int) * (G * 64) = (m : Int) * (G * 64) + G * 64 := by rw [Int.natCast_add, Int.add_mul]; simp
    rw [e]
    omega
theorem Samp.mem {zs : List Int} (h : Samp zs) {z : Int} (hz : z ∈ zs) : 1 ≤ z ∧ z ≤ (mostOf zs : Int) := by
  obtain ⟨_, _, _, m4⟩ := h.most
  obtain ⟨j, hj, rfl⟩ := List.getElem_of_mem hz
  have h1 := h.2.1 j hj
  have h2 := m4 j hj
  rw [List.getD_eq_getElem?_getD, List.getElem?_eq_getElem hj] at h1 h2
  exact ⟨h1.1, h2⟩
theorem maxOf_mem : ∀ (k : Nat) {zs : List Int}, 0 < k → k ≤ zs.length → ∃ j, j < k ∧ zs.getD j 0 = Lib.maxOf (zs.take k)
  | 0, _, h, _ => by omega
  | k + 1, zs, _, hk => by
    rcases Nat.eq_zero_or_pos k with h0 | h0
    · subst h0
      exact ⟨0, by omega, (Lib.maxOf_one zs).symm⟩
    · obtain ⟨j, hj, e⟩ := maxOf_mem k h0 (Nat.le_of_succ_le hk)
      rw [Lib.maxOf_step zs k h0 (by omega)]
      by_cases h : Lib.maxOf (zs.take k) ≤ zs.getD k 0
      · exact ⟨k, by omega, by omega⟩
      · exact ⟨j, by omega, by omega⟩
theorem ones_sum : ∀ zs : List Int, (zs.map fun _ => (1 : Int)).sum = zs.length
  | [] => rfl
  | a :: l => by rw [List.map_cons, List.sum_cons, ones_sum l]; simp; omega
theorem same_sum : ∀ {zs : List Int}, (∀ z ∈ zs, 1 ≤ z) → (zs.map fun z => (((z - 1).toNat : Nat) : Int) + 1).sum = zs.sum
  | [], _ => rfl
  | a :: l, h => by
    have := h a (by simp)
    rw [List.map_cons, List.sum_cons, List.sum_cons, same_sum fun z hz => h z (by simp [hz])]
    omega
theorem Samp.sums {zs : List Int} (h : Samp zs) : ∃ m : Nat, mostOf zs = m + 1 ∧ m + 1 ≤ 64 ∧ (∀ j, j < m + 1 → (freqs zs).getD j 0 = ((zs.count ((j : Int) + 1) : Nat) : Int)) ∧ 0 < (freqs zs).getD m 0 ∧
    wsum (fun _ => 1) zs (m + 1) = zs.length ∧ wsum (fun j => (j : Int) + 1) zs (m + 1) = zs.sum := by
  obtain ⟨m1, m2, m3, m4⟩ := h.most
  have hf : ∀ j, j < mostOf zs → (freqs zs).getD j 0 = ((zs.count ((j : Int) + 1) : Nat) : Int) := fun j hj => by
    unfold freqs
    rw [frq_getD hj, List.take_length]
  obtain ⟨j, hj, e⟩ := maxOf_mem zs.length (zs := zs) (by have := h.1; omega) (Nat.le_refl _)
  rw [List.take_length] at e
  have hmem : ((mostOf zs : Nat) : Int) ∈ zs := by
    rw [m1, ← e, List.getD_eq_getElem?_getD, List.getElem?_eq_getElem hj]
    exact List.getElem_mem hj
  have hlast : 0 < zs.count ((mostOf zs : Nat) : Int) := List.count_pos_iff.2 hmem
  have e1 := wsum_all (fun _ => 1) (zs := zs) (m := mostOf zs) fun z hz => h.mem hz
  have e2 := wsum_all (fun j => (j : Int) + 1) (zs := zs) (m := mostOf zs) fun z hz => h.mem hz
  have s1 := ones_sum zs
  have s2 := same_sum (zs := zs) fun z hz => (h.mem hz).1
  rw [s1] at e1
  rw [s2] at e2
  generalize mostOf zs = mm at *
  obtain ⟨m, rfl⟩ : ∃ m, mm = m + 1 := ⟨mm - 1, by omega⟩
  refine ⟨m, rfl, m3, hf, ?_, e1, e2⟩
  rw [hf m (by omega)]
  have : ((m + 1 : Nat) : Int) = (m : Int) + 1 := by omega
  rw [this] at hlast
  omega

theorem Samp.iff {zs : List Int} : Samp zs ↔ (1 ≤ zs.length ∧ zs.length ≤ 64) ∧ (∀ z ∈ zs, InS z) ∧ zs.sum ≤ 64 := by
  unfold Samp
  refine ⟨fun h => ⟨h.1, fun z hz => ?_, h.2.2⟩, fun h => ⟨h.1, fun k hk => ?_, h.2.2⟩⟩
  · obtain ⟨j, hj, rfl⟩ := List.getElem_of_mem hz
    have h1 := h.2.1 j hj
    rwa [List.getD_eq_getElem?_getD, List.getElem?_eq_getElem hj] at h1
  · rw [List.getD_eq_getElem?_getD, List.getElem?_eq_getElem hk]
    exact h.2.1 _ (List.getElem_mem hk)
theorem sum_perm {zs ys : List Int} (h : zs.Perm ys) : zs.sum = ys.sum := by
  induction h with
  | nil => rfl
  | cons a _ ih => simp [ih]
  | swap a b l => simp; omega
  | trans _ _ h1 h2 => exact h1.trans h2
theorem Samp.perm {zs ys : List Int} (h : zs.Perm ys) (hs : Samp zs) : Samp ys := by
  rw [Samp.iff] at hs ⊢
  rw [← h.length_eq, ← sum_perm h]
  exact ⟨hs.1, fun z hz => hs.2.1 z (h.mem_iff.2 hz), hs.2.2⟩

end Go.Proofs.YtkjcbfaimonaoaaDoor
