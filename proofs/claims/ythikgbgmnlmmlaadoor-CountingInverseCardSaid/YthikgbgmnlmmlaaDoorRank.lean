/- Ranks of sets, on Nat: what is before a set, the set at a rank, that each undoes the other, and the order. No program is named here. -/
import Derived.Test.YthikgbgmnlmmlaaDoorComb
namespace Go.Proofs.YthikgbgmnlmmlaaDoor
open Num

/-- The sets that have one of m numbers from lo on at this place, r numbers behind it. -/
def inner (n r : Nat) : Nat → Nat → Nat
  | _, 0 => 0
  | lo, m + 1 => chs (n - 1 - lo) r + inner n r (lo + 1) m
def rankFrom (n : Nat) : Nat → List Nat → Nat
  | _, [] => 0
  | lo, x :: rest => inner n rest.length lo (x - lo) + rankFrom n (x + 1) rest
/-- Strictly ascending, from lo on, below n. -/
def Asc (n : Nat) : Nat → List Nat → Prop
  | _, [] => True
  | lo, x :: rest => lo ≤ x ∧ x < n ∧ Asc n (x + 1) rest
def unr : Nat → Nat → Nat → Nat → List Nat
  | _, _, 0, _ => []
  | 0, _, _ + 1, _ => []
  | m + 1, x, j + 1, r => if r < chs m j then x :: unr m (x + 1) j r else unr m (x + 1) (j + 1) (r - chs m j)

theorem unr_zero (m x r : Nat) : unr m x 0 r = [] := by cases m <;> rfl
theorem unr_lt {m j r : Nat} (x : Nat) (h : r < chs m j) : unr (m + 1) x (j + 1) r = x :: unr m (x + 1) j r := by rw [unr, if_pos h]
theorem unr_ge {m j r : Nat} (x : Nat) (h : chs m j ≤ r) : unr (m + 1) x (j + 1) r = unr m (x + 1) (j + 1) (r - chs m j) := by rw [unr, if_neg (by omega)]

theorem inner_chs (n r : Nat) : ∀ m lo, lo + m ≤ n → chs (n - lo) (r + 1) = inner n r lo m + chs (n - lo - m) (r + 1) := by
  intro m
  induction m with
  | zero => intro lo h; simp [inner]
  | succ m ih =>
    intro lo h
    obtain ⟨d, hd⟩ : ∃ d, n - lo = d + 1 := ⟨n - lo - 1, by omega⟩
    have := ih (lo + 1) (by omega)
    rw [show n - (lo + 1) = d from by omega] at this
    rw [inner, hd, chs_succ, show n - 1 - lo = d from by omega, this, show d + 1 - (m + 1) = d - m from by omega]
    omega
theorem rankFrom_lt (n : Nat) : ∀ set lo, lo ≤ n → Asc n lo set → rankFrom n lo set < chs (n - lo) set.length := by
  intro set
  induction set with
  | nil => intro lo _ _; rw [rankFrom, List.length_nil, chs_zero]; omega
  | cons x rest ih =>
    intro lo hlo h
    obtain ⟨h1, h2, h3⟩ := h
    have i1 := ih (x + 1) (by omega) h3
    have i2 := inner_chs n rest.length (x - lo) lo (by omega)
    obtain ⟨d, hd⟩ : ∃ d, n - lo - (x - lo) = d + 1 := ⟨n - x - 1, by omega⟩
    rw [hd, chs_succ] at i2
    rw [show n - (x + 1) = d from by omega] at i1
    rw [rankFrom, List.length_cons, i2]
    omega
theorem unr_skip (n r : Nat) : ∀ m lo q, lo + m < n → q < chs (n - 1 - (lo + m)) r →
    unr (n - lo) lo (r + 1) (inner n r lo m + q) = (lo + m) :: unr (n - 1 - (lo + m)) (lo + m + 1) r q := by
  intro m
  induction m with
  | zero =>
    intro lo q h1 h2
    obtain ⟨d, hd⟩ : ∃ d, n - lo = d + 1 := ⟨n - lo - 1, by omega⟩
    simp only [Nat.add_zero] at *
    rw [show n - 1 - lo = d from by omega] at *
    rw [inner, Nat.zero_add, hd, unr_lt _ h2]
  | succ m ih =>
    intro lo q h1 h2
    obtain ⟨d, hd⟩ : ∃ d, n - lo = d + 1 := ⟨n - lo - 1, by omega⟩
    have := ih (lo + 1) q (by omega) (by rw [show lo + 1 + m = lo + (m + 1) from by omega]; exact h2)
    rw [show n - (lo + 1) = d from by omega, show lo + 1 + m = lo + (m + 1) from by omega] at this
    rw [inner, hd, show n - 1 - lo = d from by omega, unr_ge _ (by omega), show chs d r + inner n r (lo + 1) m + q - chs d r = inner n r (lo + 1) m + q from by omega, this]
theorem unr_rank (n : Nat) : ∀ set lo, lo ≤ n → Asc n lo set → unr (n - lo) lo set.length (rankFrom n lo set) = set := by
  intro set
  induction set with
  | nil => intro lo _ _; rw [List.length_nil, unr_zero]
  | cons x rest ih =>
    intro lo hlo h
    obtain ⟨h1, h2, h3⟩ := h
    have i1 := rankFrom_lt n rest (x + 1) (by omega) h3
    have i2 := unr_skip n rest.length (x - lo) lo (rankFrom n (x + 1) rest) (by omega) (by rw [show n - 1 - (lo + (x - lo)) = n - (x + 1) from by omega]; exact i1)
    rw [rankFrom, List.length_cons, i2, show lo + (x - lo) = x from by omega, show n - 1 - x = n - (x + 1) from by omega, ih (x + 1) (by omega) h3]
theorem unr_asc : ∀ m x j r, r < chs m j → Asc (x + m) x (unr m x j r) ∧ (unr m x j r).length = j := by
  intro m
  induction m with
  | zero =>
    intro x j r h
    cases j with
    | zero => rw [unr_zero]; exact ⟨trivial, rfl⟩
    | succ j => rw [chs_zero_succ] at h; omega
  | succ m ih =>
    intro x j r h
    cases j with
    | zero => rw [unr_zero]; exact ⟨trivial, rfl⟩
    | succ j =>
      rcases Nat.lt_or_ge r (chs m j) with h' | h'
      · obtain ⟨i1, i2⟩ := ih (x + 1) j r h'
        rw [unr_lt _ h']
        exact ⟨⟨Nat.le_refl _, by omega, by rw [show x + (m + 1) = x + 1 + m from by omega]; exact i1⟩, by rw [List.length_cons, i2]⟩
      · rw [chs_succ] at h
        obtain ⟨i1, i2⟩ := ih (x + 1) (j + 1) (r - chs m j) (by omega)
        rw [unr_ge _ h']
        refine ⟨?_, i2⟩
        rw [show x + (m + 1) = x + 1 + m from by omega]
        generalize unr m (x + 1) (j + 1) (r - chs m j) = l at *
        cases l with
        | nil => trivial
        | cons y rest => obtain ⟨h1, h2, h3⟩ := i1; exact ⟨by omega, h2, h3⟩
theorem Asc.head {n lo x : Nat} {l : List Nat} (h : Asc n lo (x :: l)) : lo ≤ x := h.1
/-- At the first place where they differ, the later set has the greater number. -/
theorem unr_later : ∀ m x j r s, r < s → s < chs m j → ∃ i, i < j ∧ (unr m x j r).take i = (unr m x j s).take i ∧ (unr m x j r).getD i 0 < (unr m x j s).getD i 0 := by
  intro m
  induction m with
  | zero =>
    intro x j r s h1 h2
    cases j with
    | zero => rw [chs_zero] at h2; omega
    | succ j => rw [chs_zero_succ] at h2; omega
  | succ m ih =>
    intro x j r s h1 h2
    cases j with
    | zero => rw [chs_zero] at h2; omega
    | succ j =>
      rcases Nat.lt_or_ge s (chs m j) with h' | h'
      · obtain ⟨i, i1, i2, i3⟩ := ih (x + 1) j r s h1 h'
        rw [unr_lt _ h', unr_lt _ (by omega)]
        exact ⟨i + 1, by omega, by simp [i2], by simpa using i3⟩
      · rw [chs_succ] at h2
        rcases Nat.lt_or_ge r (chs m j) with h'' | h''
        · obtain ⟨a1, a2⟩ := unr_asc m (x + 1) (j + 1) (s - chs m j) (by omega)
          rw [unr_lt _ h'', unr_ge _ h']
          refine ⟨0, by omega, by simp, ?_⟩
          generalize unr m (x + 1) (j + 1) (s - chs m j) = l at *
          cases l with
          | nil => simp at a2
          | cons y rest => have := a1.1; simp; omega
        · obtain ⟨i, i1, i2, i3⟩ := ih (x + 1) (j + 1) (r - chs m j) (s - chs m j) (by omega) (by omega)
          rw [unr_ge _ h', unr_ge _ h'']
          exact ⟨i, i1, i2, i3⟩
theorem unr_last : ∀ m x j, j ≤ m → unr m x j (chs m j - 1) = List.range' (x + m - j) j := by
  intro m
  induction m with
  | zero => intro x j h; rw [show j = 0 from by omega, unr_zero]; rfl
  | succ m ih =>
    intro x j h
    cases j with
    | zero => rw [unr_zero]; rfl
    | succ j =>
      rw [chs_succ]
      have hp := chs_pos m j (by omega)
      rcases Nat.lt_or_ge j m with h' | h'
      · have hq := chs_pos m (j + 1) (by omega)
        rw [unr_ge _ (by omega), show chs m j + chs m (j + 1) - 1 - chs m j = chs m (j + 1) - 1 from by omega, ih (x + 1) (j + 1) (by omega), show x + 1 + m - (j + 1) = x + (m + 1) - (j + 1) from by omega]
      · have hj : j = m := by omega
        subst hj
        have e0 := unr_lt (m := j) (j := j) (r := chs j j - 1) x (by omega)
        rw [chs_gt j (j + 1) (by omega), show chs j j + 0 - 1 = chs j j - 1 from by omega, e0]
        rw [ih (x + 1) j (Nat.le_refl _), show x + 1 + j - j = x + 1 from by omega, show x + (j + 1) - (j + 1) = x from by omega, List.range'_succ]

end Go.Proofs.YthikgbgmnlmmlaaDoor
