/- Plain law of matrices: reduced form, kernel, rank, determinant. No function is named here. -/
import Derived.Test.YtmfigiifflljpaaNum
set_option linter.unusedVariables false
set_option linter.unusedSimpArgs false
namespace Go.Proofs.Ytmfigiifflljpaa
open Num

/-- The sum of the first n values. -/
def sm (f : Nat → Rat) : Nat → Rat
  | 0 => 0
  | n + 1 => sm f n + f n
theorem sm_succ (f : Nat → Rat) (n : Nat) : sm f (n + 1) = sm f n + f n := rfl
theorem sm_congr {f g : Nat → Rat} : ∀ {n : Nat}, (∀ i, i < n → f i = g i) → sm f n = sm g n
  | 0, _ => rfl
  | n + 1, h => by rw [sm_succ, sm_succ, sm_congr fun i hi => h i (by omega), h n (by omega)]
theorem sm_zero {f : Nat → Rat} : ∀ {n : Nat}, (∀ i, i < n → f i = 0) → sm f n = 0
  | 0, _ => rfl
  | n + 1, h => by rw [sm_succ, sm_zero fun i hi => h i (by omega), h n (by omega)]; grind
theorem sm_add (f g : Nat → Rat) : ∀ n : Nat, sm (fun i => f i + g i) n = sm f n + sm g n
  | 0 => by show (0 : Rat) = 0 + 0; grind
  | n + 1 => by rw [sm_succ, sm_succ, sm_succ, sm_add f g n]; grind
theorem sm_sub (f g : Nat → Rat) : ∀ n : Nat, sm (fun i => f i - g i) n = sm f n - sm g n
  | 0 => by show (0 : Rat) = 0 - 0; grind
  | n + 1 => by rw [sm_succ, sm_succ, sm_succ, sm_sub f g n]; grind
theorem sm_mul (c : Rat) (f : Nat → Rat) : ∀ n : Nat, sm (fun i => c * f i) n = c * sm f n
  | 0 => by show (0 : Rat) = c * 0; grind
  | n + 1 => by rw [sm_succ, sm_succ, sm_mul c f n]; grind
theorem sm_single {f : Nat → Rat} {k : Nat} : ∀ {n : Nat}, k < n → (∀ i, i < n → i ≠ k → f i = 0) → sm f n = f k
  | 0, h, _ => by omega
  | n + 1, h, hz => by
    rw [sm_succ]
    by_cases hk : k = n
    · subst hk
      rw [sm_zero fun i hi => hz i (by omega) (by omega)]
      grind
    · rw [sm_single (by omega) fun i hi hne => hz i (by omega) hne, hz n (by omega) (by omega)]
      grind
theorem sm_comm (f : Nat → Nat → Rat) (m : Nat) : ∀ n : Nat, sm (fun i => sm (fun j => f i j) m) n = sm (fun j => sm (fun i => f i j) n) m
  | 0 => by
    show (0 : Rat) = _
    rw [sm_zero]
    exact fun i _ => rfl
  | n + 1 => by
    rw [sm_succ, sm_comm f m n, ← sm_add]
    rfl
theorem sm_le {f g : Nat → Rat} : ∀ {n : Nat}, (∀ i, i < n → f i ≤ g i) → sm f n ≤ sm g n
  | 0, _ => by show (0 : Rat) ≤ 0; grind
  | n + 1, h => by
    have h1 := sm_le (n := n) fun i hi => h i (by omega)
    have h2 := h n (by omega)
    rw [sm_succ, sm_succ]
    grind

/-! Matrices: functions of the row and the column. -/
abbrev Mx := Nat → Nat → Rat
def dotR (x v : Nat → Rat) (C : Nat) : Rat := sm (fun j => x j * v j) C
def Ker (M : Mx) (n C : Nat) (v : Nat → Rat) : Prop := ∀ i, i < n → dotR (M i) v C = 0
def swp (M : Mx) (k p : Nat) : Mx := fun i => if i = k then M p else if i = p then M k else M i
def scl (M : Mx) (k c : Nat) : Mx := fun i j => if i = k then M k j / M k c else M i j
def elm (M : Mx) (k c : Nat) : Mx := fun i j => if i = k then M k j else M i j - M i c * M k j
theorem swp_at {M : Mx} {k p i : Nat} : swp M k p i = if i = k then M p else if i = p then M k else M i := rfl
theorem scl_at {M : Mx} {k c i j : Nat} : scl M k c i j = if i = k then M k j / M k c else M i j := rfl
theorem elm_at {M : Mx} {k c i j : Nat} : elm M k c i j = if i = k then M k j else M i j - M i c * M k j := rfl
theorem dotR_congr {x y v u : Nat → Rat} {C : Nat} (h : ∀ j, j < C → x j = y j) (h2 : ∀ j, j < C → v j = u j) : dotR x v C = dotR y u C := sm_congr fun j hj => by rw [h j hj, h2 j hj]
theorem dotR_div (x v : Nat → Rat) (t : Rat) (C : Nat) : dotR (fun j => x j / t) v C = t⁻¹ * dotR x v C := by
  unfold dotR
  rw [← sm_mul]
  exact sm_congr fun j _ => by show x j / t * v j = _; rw [Rat.div_def]; grind
theorem dotR_less (x y v : Nat → Rat) (t : Rat) (C : Nat) : dotR (fun j => x j - t * y j) v C = dotR x v C - t * dotR y v C := by
  unfold dotR
  rw [← sm_mul, ← sm_sub]
  exact sm_congr fun j _ => by grind
theorem ker_swp {M : Mx} {n C k p : Nat} {v : Nat → Rat} (hk : k < n) (hp : p < n) : Ker (swp M k p) n C v ↔ Ker M n C v := by
  constructor
  · intro h i hi
    by_cases h1 : i = p
    · subst h1
      have := h k hk
      rwa [swp_at, if_pos rfl] at this
    · by_cases h2 : i = k
      · subst h2
        have := h p hp
        rw [swp_at] at this
        by_cases h3 : p = i
        · rw [if_pos h3] at this; rw [← h3]; exact h3 ▸ this
        · rwa [if_neg h3, if_pos rfl] at this
      · have := h i hi
        rwa [swp_at, if_neg h2, if_neg h1] at this
  · intro h i hi
    rw [swp_at]
    split
    · exact h p hp
    · split
      · exact h k hk
      · exact h i hi
theorem ker_scl {M : Mx} {n C k c : Nat} {v : Nat → Rat} (hk : k < n) (hc : M k c ≠ 0) : Ker (scl M k c) n C v ↔ Ker M n C v := by
  have e : ∀ i, dotR (scl M k c i) v C = if i = k then (M k c)⁻¹ * dotR (M k) v C else dotR (M i) v C := fun i => by
    by_cases h : i = k
    · rw [if_pos h, ← dotR_div]
      exact dotR_congr (fun j _ => by rw [scl_at, if_pos h]) fun _ _ => rfl
    · rw [if_neg h]
      exact dotR_congr (fun j _ => by rw [scl_at, if_neg h]) fun _ _ => rfl
  constructor
  · intro h i hi
    have := h i hi
    rw [e] at this
    by_cases h1 : i = k
    · subst h1
      rw [if_pos rfl] at this
      grind
    · rwa [if_neg h1] at this
  · intro h i hi
    rw [e]
    split
    · rw [h k hk]; grind
    · exact h i hi
theorem ker_elm {M : Mx} {n C k c : Nat} {v : Nat → Rat} (hk : k < n) : Ker (elm M k c) n C v ↔ Ker M n C v := by
  have e : ∀ i, dotR (elm M k c i) v C = if i = k then dotR (M k) v C else dotR (M i) v C - M i c * dotR (M k) v C := fun i => by
    by_cases h : i = k
    · rw [if_pos h]
      exact dotR_congr (fun j _ => by rw [elm_at, if_pos h]) fun _ _ => rfl
    · rw [if_neg h, ← dotR_less]
      exact dotR_congr (fun j _ => by rw [elm_at, if_neg h]) fun _ _ => rfl
  constructor
  · intro h i hi
    have hk0 := h k hk
    rw [e, if_pos rfl] at hk0
    have := h i hi
    rw [e] at this
    by_cases h1 : i = k
    · subst h1; exact hk0
    · rw [if_neg h1, hk0] at this
      grind
  · intro h i hi
    rw [e]
    split
    · exact h k hk
    · rw [h k hk, h i hi]; grind

/-! The first row from k on that is not zero in a column. -/
def pivF (M : Mx) (c : Nat) : Nat → Nat → Nat
  | 0, p => p
  | f + 1, p => if M p c = 0 then pivF M c f (p + 1) else p
def piv (M : Mx) (n c k : Nat) : Nat := pivF M c (n - k) k
theorem pivF_spec (M : Mx) (c : Nat) : ∀ f p, (p ≤ pivF M c f p ∧ pivF M c f p ≤ p + f) ∧ (∀ i, p ≤ i → i < pivF M c f p → M i c = 0) ∧ (pivF M c f p = p + f ∨ M (pivF M c f p) c ≠ 0)
  | 0, p => ⟨⟨Nat.le_refl _, Nat.le_refl _⟩, fun i h1 h2 => by unfold pivF at h2; omega, .inl rfl⟩
  | f + 1, p => by
    unfold pivF
    by_cases h : M p c = 0
    · rw [if_pos h]
      obtain ⟨⟨a1, a2⟩, a3, a4⟩ := pivF_spec M c f (p + 1)
      refine ⟨⟨by omega, by omega⟩, fun i h1 h2 => ?_, ?_⟩
      · by_cases hi : i = p
        · rw [hi]; exact h
        · exact a3 i (by omega) h2
      · rcases a4 with a4 | a4
        · exact .inl (by omega)
        · exact .inr a4
    · rw [if_neg h]
      exact ⟨⟨Nat.le_refl _, by omega⟩, fun i h1 h2 => by omega, .inr h⟩
theorem piv_spec (M : Mx) {n c k : Nat} (hk : k ≤ n) : (k ≤ piv M n c k ∧ piv M n c k ≤ n) ∧ (∀ i, k ≤ i → i < piv M n c k → M i c = 0) ∧ (piv M n c k = n ∨ M (piv M n c k) c ≠ 0) := by
  obtain ⟨⟨a1, a2⟩, a3, a4⟩ := pivF_spec M c (n - k) k
  refine ⟨⟨a1, by unfold piv; omega⟩, a3, ?_⟩
  rcases a4 with a4 | a4
  · exact .inl (by unfold piv; omega)
  · exact .inr a4
theorem piv_eq {M : Mx} {n c k p : Nat} (hk : k ≤ p) (hp : p ≤ n) (hz : ∀ i, k ≤ i → i < p → M i c = 0) (he : p = n ∨ M p c ≠ 0) : p = piv M n c k := by
  obtain ⟨⟨a1, a2⟩, a3, a4⟩ := piv_spec M (n := n) (c := c) (k := k) (by omega)
  rcases Nat.lt_trichotomy p (piv M n c k) with h | h | h
  · rcases he with he | he
    · omega
    · exact absurd (a3 p hk h) he
  · exact h
  · rcases a4 with a4 | a4
    · omega
    · exact absurd (hz _ a1 h) a4
theorem piv_congr {M M' : Mx} {n c k : Nat} (hk : k ≤ n) (h : ∀ i, i < n → M i c = M' i c) : piv M n c k = piv M' n c k := by
  obtain ⟨⟨a1, a2⟩, a3, a4⟩ := piv_spec M (n := n) (c := c) (k := k) hk
  refine piv_eq a1 a2 (fun i h1 h2 => by rw [← h i (by omega)]; exact a3 i h1 h2) ?_
  by_cases h1 : piv M n c k = n
  · exact .inl h1
  · rcases a4 with a4 | a4
    · exact .inl a4
    · exact .inr (by rw [← h _ (by omega)]; exact a4)

/-! The reduced form. -/
structure Rd where
  m : Mx
  leads : List Nat
  det : Rat
def stepR (s : Rd) (n c : Nat) : Rd :=
  let k := s.leads.length
  let p := piv s.m n c k
  if p = n then ⟨s.m, s.leads, 0⟩
  else ⟨elm (scl (swp s.m k p) k c) k c, s.leads ++ [c], (if p = k then s.det else -s.det) * s.m p c⟩
def rrefs (M : Mx) (n : Nat) : Nat → Rd
  | 0 => ⟨M, [], 1⟩
  | c + 1 => stepR (rrefs M n c) n c
def rk (M : Mx) (n N : Nat) : Nat := (rrefs M n N).leads.length

/-- What holds of the reduced form of the first c columns. -/
structure Ech (s : Rd) (n c : Nat) : Prop where
  len : s.leads.length ≤ n
  asc : s.leads.Pairwise (· < ·)
  lt : ∀ l ∈ s.leads, l < c
  one : ∀ k l, s.leads[k]? = some l → ∀ i, i < n → s.m i l = if i = k then 1 else 0
  zero : ∀ i, s.leads.length ≤ i → i < n → ∀ j, j < c → s.m i j = 0
  left : ∀ k l, s.leads[k]? = some l → ∀ j, j < l → s.m k j = 0

theorem stepR_no {s : Rd} {n c : Nat} (h : piv s.m n c s.leads.length = n) : stepR s n c = ⟨s.m, s.leads, 0⟩ := by
  unfold stepR
  simp only [if_pos h]
theorem stepR_yes {s : Rd} {n c : Nat} (h : piv s.m n c s.leads.length ≠ n) : stepR s n c = ⟨elm (scl (swp s.m s.leads.length (piv s.m n c s.leads.length)) s.leads.length c) s.leads.length c, s.leads ++ [c], (if piv s.m n c s.leads.length = s.leads.length then s.det else -s.det) * s.m (piv s.m n c s.leads.length) c⟩ := by
  unfold stepR
  simp only [if_neg h]

/-- One step, entry by entry. -/
theorem step_at {M : Mx} {k p c i j : Nat} : elm (scl (swp M k p) k c) k c i j = if i = k then M p j / M p c else swp M k p i j - swp M k p i c * (M p j / M p c) := by
  rw [elm_at]
  by_cases h : i = k
  · rw [if_pos h, if_pos h, scl_at, if_pos rfl, swp_at, if_pos rfl]
  · rw [if_neg h, if_neg h, scl_at, if_neg h, scl_at, if_neg h, scl_at, if_pos rfl]
    rw [show swp M k p k = M p from by rw [swp_at, if_pos rfl]]
theorem ech_step {s : Rd} {n c : Nat} (h : Ech s n c) : Ech (stepR s n c) n (c + 1) := by
  obtain ⟨⟨a1, a2⟩, a3, a4⟩ := piv_spec s.m (n := n) (c := c) (k := s.leads.length) h.len
  by_cases hp : piv s.m n c s.leads.length = n
  · rw [stepR_no hp]
    exact ⟨h.len, h.asc, fun l hl => Nat.lt_succ_of_lt (h.lt l hl), h.one, fun i h1 h2 j hj => by
      by_cases hj2 : j = c
      · subst hj2; exact a3 i h1 (by rw [hp]; exact h2)
      · exact h.zero i h1 h2 j (by omega), h.left⟩
  · rw [stepR_yes hp]
    have hne : s.m (piv s.m n c s.leads.length) c ≠ 0 := by
      rcases a4 with a4 | a4
      · exact absurd a4 hp
      · exact a4
    generalize piv s.m n c s.leads.length = p at *
    have hpn : p < n := by omega
    -- the row that moves up is zero on the left
    have zp : ∀ j, j < c → s.m p j = 0 := fun j hj => h.zero p a1 hpn j hj
    have zk : ∀ j, j < c → s.m s.leads.length j = 0 := fun j hj => h.zero _ (Nat.le_refl _) (by omega) j hj
    have hs : ∀ i, i < s.leads.length → swp s.m s.leads.length p i = s.m i := fun i hi => by rw [swp_at, if_neg (by omega), if_neg (by omega)]
    have hsw : ∀ i, s.leads.length ≤ i → i < n → ∀ j, j < c → swp s.m s.leads.length p i j = 0 := fun i h1 h2 j hj => by
      rw [swp_at]
      split
      · exact zp j hj
      · split
        · exact zk j hj
        · exact h.zero i h1 h2 j hj
    have old : ∀ i j, i < n → j < c → elm (scl (swp s.m s.leads.length p) s.leads.length c) s.leads.length c i j = if i < s.leads.length then s.m i j else 0 := fun i j hi hj => by
      rw [step_at, zp j hj]
      by_cases h1 : i = s.leads.length
      · rw [if_pos h1, if_neg (by omega), Rat.div_def]; grind
      · rw [if_neg h1]
        by_cases h2 : i < s.leads.length
        · rw [if_pos h2, hs i h2, Rat.div_def]; grind
        · rw [if_neg h2, hsw i (by omega) hi j hj, Rat.div_def]; grind
    have new : ∀ i, i < n → elm (scl (swp s.m s.leads.length p) s.leads.length c) s.leads.length c i c = if i = s.leads.length then 1 else 0 := fun i hi => by
      rw [step_at]
      have e : s.m p c / s.m p c = 1 := by rw [Rat.div_def]; grind
      rw [e]
      split
      · rfl
      · grind
    refine ⟨?_, ?_, ?_, ?_, ?_, ?_⟩
    · rw [List.length_append]; show _ + 1 ≤ n; omega
    · show List.Pairwise _ (s.leads ++ [c])
      rw [List.pairwise_append]
      exact ⟨h.asc, List.pairwise_singleton _ _, fun a ha b hb => by rw [List.mem_singleton.1 hb]; exact h.lt a ha⟩
    · intro l hl
      rcases List.mem_append.1 hl with hl | hl
      · exact Nat.lt_succ_of_lt (h.lt l hl)
      · rw [List.mem_singleton.1 hl]; exact Nat.lt_succ_self _
    · intro k l hk i hi
      by_cases hkl : k < s.leads.length
      · rw [show (s.leads ++ [c])[k]? = s.leads[k]? from List.getElem?_append_left hkl] at hk
        refine (old i l hi (h.lt l (List.mem_of_getElem? hk))).trans ?_
        have := h.one k l hk i hi
        split
        · exact this
        · rw [if_neg (by omega)]
      · rw [show (s.leads ++ [c])[k]? = [c][k - s.leads.length]? from List.getElem?_append_right (by omega), List.getElem?_singleton] at hk
        split at hk
        · cases hk
          have : k = s.leads.length := by omega
          rw [this]
          exact new i hi
        · cases hk
    · intro i h1 h2 j hj
      rw [List.length_append] at h1
      have h1' : s.leads.length + 1 ≤ i := h1
      by_cases hj2 : j = c
      · subst hj2
        exact (new i h2).trans (if_neg (by omega))
      · exact (old i j h2 (by omega)).trans (if_neg (by omega))
    · intro k l hk j hj
      by_cases hkl : k < s.leads.length
      · rw [show (s.leads ++ [c])[k]? = s.leads[k]? from List.getElem?_append_left hkl] at hk
        have hlc := h.lt l (List.mem_of_getElem? hk)
        refine (old k j (by omega) (by omega)).trans ?_
        rw [if_pos hkl]
        exact h.left k l hk j hj
      · rw [show (s.leads ++ [c])[k]? = [c][k - s.leads.length]? from List.getElem?_append_right (by omega), List.getElem?_singleton] at hk
        split at hk
        · cases hk
          exact (old k j (by omega) hj).trans (if_neg (by omega))
        · cases hk
theorem ech (M : Mx) (n : Nat) : ∀ c, Ech (rrefs M n c) n c
  | 0 => { len := Nat.zero_le _, asc := List.Pairwise.nil, lt := (by intro l hl; cases hl), one := (by intro k l hk; simp [rrefs] at hk), zero := (fun i _ _ j hj => by omega), left := (by intro k l hk; simp [rrefs] at hk) }
  | c + 1 => ech_step (ech M n c)
theorem ker_step {s : Rd} {n c C : Nat} {v : Nat → Rat} (h : s.leads.length ≤ n) : Ker (stepR s n c).m n C v ↔ Ker s.m n C v := by
  obtain ⟨⟨a1, a2⟩, a3, a4⟩ := piv_spec s.m (n := n) (c := c) (k := s.leads.length) h
  by_cases hp : piv s.m n c s.leads.length = n
  · rw [stepR_no hp]
  · rw [stepR_yes hp]
    have hne : s.m (piv s.m n c s.leads.length) c ≠ 0 := by
      rcases a4 with a4 | a4
      · exact absurd a4 hp
      · exact a4
    show Ker (elm _ _ _) n C v ↔ _
    rw [ker_elm (by omega), ker_scl (by omega), ker_swp (by omega) (by omega)]
    rw [swp_at, if_pos rfl]
    exact hne
theorem ker_rrefs {M : Mx} {n C : Nat} {v : Nat → Rat} : ∀ c, Ker (rrefs M n c).m n C v ↔ Ker M n C v
  | 0 => Iff.rfl
  | c + 1 => (ker_step (ech M n c).len).trans (ker_rrefs c)

/-- Only what lies in the matrix counts. -/
theorem rrefs_congr {M M' : Mx} {n N : Nat} (h : ∀ i j, i < n → j < N → M i j = M' i j) : ∀ c, c ≤ N → (∀ i j, i < n → j < N → (rrefs M n c).m i j = (rrefs M' n c).m i j) ∧ (rrefs M n c).leads = (rrefs M' n c).leads ∧ (rrefs M n c).det = (rrefs M' n c).det
  | 0, _ => ⟨h, rfl, rfl⟩
  | c + 1, hc => by
    obtain ⟨b1, b2, b3⟩ := rrefs_congr h c (by omega)
    have hl := (ech M n c).len
    have hpe := piv_congr (c := c) hl fun i hi => b1 i c hi (by omega)
    show (∀ i j, i < n → j < N → (stepR _ n c).m i j = (stepR _ n c).m i j) ∧ (stepR _ n c).leads = (stepR _ n c).leads ∧ (stepR _ n c).det = (stepR _ n c).det
    by_cases hp : piv (rrefs M n c).m n c (rrefs M n c).leads.length = n
    · rw [stepR_no hp, stepR_no (s := rrefs M' n c) (by rw [← b2, ← hpe]; exact hp)]
      exact ⟨b1, b2, rfl⟩
    · obtain ⟨⟨a1, a2⟩, _, _⟩ := piv_spec (rrefs M n c).m (n := n) (c := c) (k := (rrefs M n c).leads.length) hl
      rw [stepR_yes hp, stepR_yes (s := rrefs M' n c) (by rw [← b2, ← hpe]; exact hp)]
      rw [← b2, ← b3, ← hpe]
      have hsw : ∀ i j, i < n → j < N → swp (rrefs M n c).m (rrefs M n c).leads.length (piv (rrefs M n c).m n c (rrefs M n c).leads.length) i j = swp (rrefs M' n c).m (rrefs M n c).leads.length (piv (rrefs M n c).m n c (rrefs M n c).leads.length) i j := fun i j hi hj => by
        rw [swp_at, swp_at]
        split
        · exact b1 _ _ (by omega) hj
        · split
          · exact b1 _ _ (by omega) hj
          · exact b1 _ _ hi hj
      refine ⟨fun i j hi hj => ?_, rfl, ?_⟩
      · show elm _ _ _ i j = elm _ _ _ i j
        rw [step_at, step_at, hsw i j hi hj, hsw i c hi (by omega), b1 _ j (by omega) hj, b1 _ c (by omega) (by omega)]
      · show _ * _ = _ * _
        rw [b1 _ c (by omega) (by omega)]
theorem rrefs_succ (M : Mx) (n c : Nat) : rrefs M n (c + 1) = stepR (rrefs M n c) n c := rfl


/-! Solutions. -/
theorem asc_nodup {l : List Nat} (h : l.Pairwise (· < ·)) : l.Nodup := h.imp fun h => by omega
theorem asc_len_le : ∀ {l : List Nat} {b N : Nat}, l.Pairwise (· < ·) → (∀ x ∈ l, b ≤ x ∧ x < N) → l.length ≤ N - b
  | [], _, _, _, _ => Nat.zero_le _
  | x :: l, b, N, h, hb => by
    rw [List.pairwise_cons] at h
    have h1 := hb x List.mem_cons_self
    have := asc_len_le (b := x + 1) (N := N) h.2 fun y hy => ⟨h.1 y hy, (hb y (List.mem_cons_of_mem _ hy)).2⟩
    rw [List.length_cons]
    omega
theorem asc_all : ∀ {l : List Nat} {b N : Nat}, l.Pairwise (· < ·) → (∀ x ∈ l, b ≤ x ∧ x < N) → l.length = N - b → ∀ k, k < N - b → l[k]? = some (b + k)
  | [], b, N, _, _, hl, k, hk => by simp at hl; omega
  | x :: l, b, N, h, hb, hl, k, hk => by
    rw [List.pairwise_cons] at h
    have h1 := hb x List.mem_cons_self
    have h2 : ∀ y ∈ l, x + 1 ≤ y ∧ y < N := fun y hy => ⟨h.1 y hy, (hb y (List.mem_cons_of_mem _ hy)).2⟩
    have h3 := asc_len_le (b := x + 1) (N := N) h.2 h2
    rw [List.length_cons] at hl
    have hx : x = b := by omega
    subst hx
    cases k with
    | zero => rfl
    | succ k =>
      rw [List.getElem?_cons_succ]
      rw [asc_all h.2 h2 (by omega) k (by omega)]
      congr 1
      omega
theorem rk_le (M : Mx) (n N : Nat) : rk M n N ≤ n ∧ rk M n N ≤ N := by
  have e := ech M n N
  exact ⟨e.len, by have := asc_len_le (b := 0) (N := N) e.asc fun x hx => ⟨Nat.zero_le _, e.lt x hx⟩; exact this⟩
/-- The matrix with one more column. -/
def wide (A : Mx) (b : Nat → Rat) (N : Nat) : Mx := fun i j => if j < N then A i j else b i
/-- The vector with -1 behind it. -/
def ext1 (x : Nat → Rat) (N : Nat) : Nat → Rat := fun j => if j < N then x j else -1
theorem dot_wide {A : Mx} {b x : Nat → Rat} {N i : Nat} : dotR (wide A b N i) (ext1 x N) (N + 1) = dotR (A i) x N - b i := by
  unfold dotR
  rw [sm_succ]
  have h1 : sm (fun j => wide A b N i j * ext1 x N j) N = sm (fun j => A i j * x j) N := sm_congr fun j hj => by
    unfold wide ext1
    rw [if_pos hj, if_pos hj]
  have h2 : wide A b N i N = b i := if_neg (by omega)
  have h3 : ext1 x N N = -1 := if_neg (by omega)
  rw [h1, h2, h3]
  grind
theorem ker_wide {A : Mx} {b x : Nat → Rat} {n N : Nat} : Ker (wide A b N) n (N + 1) (ext1 x N) ↔ ∀ i, i < n → dotR (A i) x N = b i := by
  constructor
  · intro h i hi
    have := h i hi
    rw [dot_wide] at this
    grind
  · intro h i hi
    rw [dot_wide, h i hi]
    grind
theorem leads_wide (A : Mx) (b : Nat → Rat) (n N : Nat) (h : N ∉ (rrefs (wide A b N) n (N + 1)).leads) : (rrefs (wide A b N) n (N + 1)).leads = (rrefs A n N).leads := by
  have e1 := (rrefs_congr (M := wide A b N) (M' := A) (n := n) (N := N) (fun i j _ hj => if_pos hj) N (Nat.le_refl _)).2.1
  rw [← e1]
  rw [rrefs_succ] at h ⊢
  by_cases hp : piv (rrefs (wide A b N) n N).m n N (rrefs (wide A b N) n N).leads.length = n
  · rw [stepR_no hp]
  · rw [stepR_yes hp] at h
    exact absurd (List.mem_append_right _ (List.mem_singleton.2 rfl)) h
theorem last_iff {l : List Nat} {N : Nat} (ha : l.Pairwise (· < ·)) (hl : ∀ x ∈ l, x < N + 1) : N ∈ l ↔ l.getLast? = some N := by
  constructor
  · intro h
    obtain ⟨a, b, rfl⟩ := List.append_of_mem h
    have hb : b = [] := by
      cases b with
      | nil => rfl
      | cons y b =>
        exfalso
        have h1 := (List.pairwise_append.1 ha).2.1
        rw [List.pairwise_cons] at h1
        have h2 := h1.1 y List.mem_cons_self
        have h3 := hl y (by simp)
        omega
    subst hb
    simp
  · intro h
    exact List.mem_of_getLast? h
/-- As many leads as columns: the last column is the solution. -/
theorem solved {A : Mx} {b : Nat → Rat} {n N : Nat} (h : N ∉ (rrefs (wide A b N) n (N + 1)).leads) (hr : ¬ (rrefs (wide A b N) n (N + 1)).leads.length < N) :
    N ≤ n ∧ (∀ i, i < n → dotR (A i) (fun j => (rrefs (wide A b N) n (N + 1)).m j N) N = b i) ∧ ∀ x : Nat → Rat, (∀ i, i < n → dotR (A i) x N = b i) → ∀ j, j < N → x j = (rrefs (wide A b N) n (N + 1)).m j N := by
  have e := ech (wide A b N) n (N + 1)
  have hlt : ∀ x ∈ (rrefs (wide A b N) n (N + 1)).leads, 0 ≤ x ∧ x < N := fun x hx => ⟨Nat.zero_le _, by
    have := e.lt x hx
    have : x ≠ N := fun h1 => h (h1 ▸ hx)
    omega⟩
  have hle := asc_len_le e.asc hlt
  have hall := asc_all e.asc hlt (by omega)
  have hlen : (rrefs (wide A b N) n (N + 1)).leads.length = N := by omega
  have hn : N ≤ n := by rw [← hlen]; exact e.len
  have hone : ∀ i j, i < n → j < N → (rrefs (wide A b N) n (N + 1)).m i j = if i = j then 1 else 0 := fun i j hi hj => by
    have := hall j (by omega)
    rw [Nat.zero_add] at this
    exact e.one j j this i hi
  have key : ∀ (x : Nat → Rat) i, i < n → dotR ((rrefs (wide A b N) n (N + 1)).m i) (ext1 x N) (N + 1) = (if i < N then x i else 0) - (rrefs (wide A b N) n (N + 1)).m i N := fun x i hi => by
    unfold dotR
    rw [sm_succ]
    have h3 : ext1 x N N = -1 := if_neg (by omega)
    have h1 : sm (fun j => (rrefs (wide A b N) n (N + 1)).m i j * ext1 x N j) N = if i < N then x i else 0 := by
      split
      · rename_i hiN
        rw [sm_single (k := i) hiN fun j hj hne => by rw [hone i j hi hj, if_neg (by omega)]; grind]
        rw [hone i i hi hiN, if_pos rfl]
        unfold ext1
        rw [if_pos hiN]
        grind
      · exact sm_zero fun j hj => by rw [hone i j hi hj, if_neg (by omega)]; grind
    rw [h1, h3]
    grind
  have hz : ∀ i, N ≤ i → i < n → (rrefs (wide A b N) n (N + 1)).m i N = 0 := fun i h1 h2 => e.zero i (by omega) h2 N (by omega)
  refine ⟨hn, ?_, fun x hx j hj => ?_⟩
  · refine ker_wide.1 ((ker_rrefs (N + 1)).1 fun i hi => ?_)
    rw [key _ i hi]
    split
    · grind
    · rw [hz i (by omega) hi]; grind
  · have h1 := (ker_rrefs (N + 1)).2 (ker_wide.2 hx) j (by omega)
    rw [key x j (by omega), if_pos hj] at h1
    grind
/-- A system that has a solution has no lead in the last column. -/
theorem lead_not {A : Mx} {b x : Nat → Rat} {n N : Nat} (hx : ∀ i, i < n → dotR (A i) x N = b i) : N ∉ (rrefs (wide A b N) n (N + 1)).leads := by
  intro h
  have e := ech (wide A b N) n (N + 1)
  obtain ⟨k, hk⟩ := List.getElem?_of_mem h
  have hkl := (List.getElem?_eq_some_iff.1 hk).1
  have hkn : k < n := by have := e.len; omega
  have h1 := (ker_rrefs (N + 1)).2 (ker_wide.2 hx) k hkn
  unfold dotR at h1
  rw [sm_succ, sm_zero fun j hj => by rw [e.left k N hk j hj]; grind] at h1
  have h3 : ext1 x N N = -1 := if_neg (by omega)
  rw [h3, e.one k N hk k hkn, if_pos rfl] at h1
  grind

/-! The kernel. -/
/-- The vector of the kernel that belongs to a column without a lead. -/
def kerV (s : Rd) (c : Nat) : Nat → Rat := fun j => if j = c then 1 else if j ∈ s.leads then -(s.m (s.leads.idxOf j) c) else 0
theorem idx_at {l : List Nat} (h : l.Nodup) {k x : Nat} (hk : l[k]? = some x) : l.idxOf x = k := by
  obtain ⟨hl, rfl⟩ := List.getElem?_eq_some_iff.1 hk
  exact h.idxOf_getElem k hl
theorem kerV_ker {s : Rd} {n c N : Nat} (e : Ech s n N) (hc : c < N) (hn : c ∉ s.leads) : Ker s.m n N (kerV s c) := by
  intro i hi
  unfold dotR
  have hnd := asc_nodup e.asc
  by_cases hr : i < s.leads.length
  · obtain ⟨l, hl⟩ : ∃ l, s.leads[i]? = some l := ⟨_, List.getElem?_eq_getElem hr⟩
    have hlm := List.mem_of_getElem? hl
    have hlc : l ≠ c := fun h => hn (h ▸ hlm)
    have e1 : ∀ j, j < N → s.m i j * kerV s c j = (if j = c then s.m i c else 0) - (if j = l then s.m i c else 0) := fun j hj => by
      unfold kerV
      by_cases h1 : j = c
      · rw [if_pos h1, if_pos h1, if_neg (by omega), h1]; grind
      · rw [if_neg h1, if_neg h1]
        by_cases h2 : j = l
        · rw [if_pos h2, h2, if_pos hlm, idx_at hnd hl, e.one i l hl i hi, if_pos rfl]; grind
        · rw [if_neg h2]
          by_cases h3 : j ∈ s.leads
          · rw [if_pos h3]
            obtain ⟨k, hk⟩ := List.getElem?_of_mem h3
            rw [e.one k j hk i hi, if_neg (fun h => h2 (by rw [← h] at hk; rw [hl] at hk; cases hk; rfl))]
            grind
          · rw [if_neg h3]; grind
    rw [sm_congr e1, sm_sub, sm_single (k := c) hc (fun j _ h => if_neg h), sm_single (k := l) (e.lt l hlm) (fun j _ h => if_neg h), if_pos rfl, if_pos rfl]
    grind
  · exact sm_zero fun j hj => by rw [e.zero i (by omega) hi j hj]; grind
theorem kerV_rrefs {M : Mx} {n c N : Nat} (hc : c < N) (hn : c ∉ (rrefs M n N).leads) : Ker M n N (kerV (rrefs M n N) c) := (ker_rrefs N).1 (kerV_ker (ech M n N) hc hn)
theorem filter_two (p : Nat → Bool) : ∀ l : List Nat, (l.filter p).length + (l.filter fun c => !p c).length = l.length
  | [] => rfl
  | x :: l => by
    have := filter_two p l
    by_cases h : p x = true
    · rw [List.filter_cons_of_pos h, List.filter_cons_of_neg (by simp [h]), List.length_cons, List.length_cons]; omega
    · rw [List.filter_cons_of_neg h, List.filter_cons_of_pos (by simp [h]), List.length_cons, List.length_cons]; omega
theorem free_count {l : List Nat} {N : Nat} (hd : l.Nodup) (hl : ∀ x ∈ l, x < N) : ((List.range N).filter (fun c => decide (c ∉ l))).length + l.length = N := by
  have h1 : ((List.range N).filter (fun c => decide (c ∈ l))).length = l.length := by
    refine List.Perm.length_eq ((List.perm_ext_iff_of_nodup (List.Nodup.sublist List.filter_sublist List.nodup_range) hd).2 fun a => ?_)
    rw [List.mem_filter, List.mem_range, decide_eq_true_iff]
    exact ⟨fun h => h.2, fun h => ⟨hl a h, h⟩⟩
  have h2 := filter_two (fun c => decide (c ∈ l)) (List.range N)
  rw [List.length_range, h1] at h2
  have h3 : (List.range N).filter (fun c => !decide (c ∈ l)) = (List.range N).filter (fun c => decide (c ∉ l)) := List.filter_congr fun x _ => by simp
  rw [h3] at h2
  omega

/-! Rows and columns exchanged. -/
theorem fact_of (M : Mx) (n N : Nat) {i j : Nat} (hi : i < n) (hj : j < N) : M i j = sm (fun k => M i ((rrefs M n N).leads.getD k 0) * (rrefs M n N).m k j) (rk M n N) := by
  have e := ech M n N
  generalize hs : rrefs M n N = s at *
  have hrk : rk M n N = s.leads.length := by unfold rk; rw [hs]
  rw [hrk]
  -- the vector that holds 1 at j and the negated entries at the leads
  have hv : Ker s.m n N (fun t => (if t = j then 1 else 0) - sm (fun k => if s.leads.getD k 0 = t then s.m k j else 0) s.leads.length) := fun i hi => by
    unfold dotR
    have e1 : ∀ t, t < N → s.m i t * ((if t = j then 1 else 0) - sm (fun k => if s.leads.getD k 0 = t then s.m k j else 0) s.leads.length) = (if t = j then s.m i j else 0) - sm (fun k => if s.leads.getD k 0 = t then s.m i (s.leads.getD k 0) * s.m k j else 0) s.leads.length := fun t ht => by
      have e2 : sm (fun k => if s.leads.getD k 0 = t then s.m i (s.leads.getD k 0) * s.m k j else 0) s.leads.length = s.m i t * sm (fun k => if s.leads.getD k 0 = t then s.m k j else 0) s.leads.length := by
        rw [← sm_mul]
        exact sm_congr fun k _ => by
          show (if s.leads.getD k 0 = t then s.m i (s.leads.getD k 0) * s.m k j else 0) = s.m i t * (if s.leads.getD k 0 = t then s.m k j else 0)
          split
          · rename_i h; rw [h]
          · grind
      rw [e2]
      split
      · rename_i h; rw [h]; grind
      · grind
    rw [sm_congr e1, sm_sub, sm_single (k := j) hj (fun t _ h => if_neg h), if_pos rfl, sm_comm]
    have e3 : ∀ k, k < s.leads.length → sm (fun t => if s.leads.getD k 0 = t then s.m i (s.leads.getD k 0) * s.m k j else 0) N = if k = i then s.m i j else 0 := fun k hk => by
      have hl : s.leads[k]? = some (s.leads.getD k 0) := by rw [List.getD_eq_getElem?_getD, List.getElem?_eq_getElem hk]; rfl
      rw [sm_single (k := s.leads.getD k 0) (e.lt _ (List.mem_of_getElem? hl)) (fun t _ h => if_neg (fun h' => h h'.symm)), if_pos rfl, e.one k _ hl i hi]
      by_cases h : k = i
      · rw [if_pos h, if_pos h.symm, h]; grind
      · rw [if_neg h, if_neg (fun h' => h h'.symm)]; grind
    rw [sm_congr e3]
    by_cases hr : i < s.leads.length
    · rw [sm_single (k := i) hr (fun k _ h => if_neg h), if_pos rfl]; grind
    · rw [sm_zero (fun k hk => if_neg (by omega)), e.zero i (by omega) hi j hj]; grind
  have h1 := (ker_rrefs (M := M) N).1 (by rw [hs]; exact hv) i hi
  unfold dotR at h1
  have e1 : ∀ t, t < N → M i t * ((if t = j then 1 else 0) - sm (fun k => if s.leads.getD k 0 = t then s.m k j else 0) s.leads.length) = (if t = j then M i j else 0) - sm (fun k => if s.leads.getD k 0 = t then M i (s.leads.getD k 0) * s.m k j else 0) s.leads.length := fun t ht => by
    have e2 : sm (fun k => if s.leads.getD k 0 = t then M i (s.leads.getD k 0) * s.m k j else 0) s.leads.length = M i t * sm (fun k => if s.leads.getD k 0 = t then s.m k j else 0) s.leads.length := by
      rw [← sm_mul]
      exact sm_congr fun k _ => by
        show (if s.leads.getD k 0 = t then M i (s.leads.getD k 0) * s.m k j else 0) = M i t * (if s.leads.getD k 0 = t then s.m k j else 0)
        split
        · rename_i h; rw [h]
        · grind
    rw [e2]
    split
    · rename_i h; rw [h]; grind
    · grind
  rw [sm_congr e1, sm_sub, sm_single (k := j) hj (fun t _ h => if_neg h), if_pos rfl, sm_comm] at h1
  have e3 : ∀ k, k < s.leads.length → sm (fun t => if s.leads.getD k 0 = t then M i (s.leads.getD k 0) * s.m k j else 0) N = M i (s.leads.getD k 0) * s.m k j := fun k hk => by
    have hl : s.leads[k]? = some (s.leads.getD k 0) := by rw [List.getD_eq_getElem?_getD, List.getElem?_eq_getElem hk]; rfl
    rw [sm_single (k := s.leads.getD k 0) (e.lt _ (List.mem_of_getElem? hl)) (fun t _ h => if_neg (fun h' => h h'.symm)), if_pos rfl]
  rw [sm_congr e3] at h1
  grind
theorem rk_fact {B X Y : Mx} {n N r : Nat} (h : ∀ i j, i < n → j < N → B i j = sm (fun k => X i k * Y k j) r) : rk B n N ≤ r := by
  refine Nat.le_of_not_lt fun hlt => ?_
  have e := ech B n N
  generalize hs : rrefs B n N = s at *
  have hrk : rk B n N = s.leads.length := by unfold rk; rw [hs]
  rw [hrk] at hlt
  -- the part of Y at the leads has more columns than rows: something of its kernel is not zero
  have eZ := ech (fun k t => Y k (s.leads.getD t 0)) r s.leads.length
  have hex : ∃ c, c < s.leads.length ∧ c ∉ (rrefs (fun k t => Y k (s.leads.getD t 0)) r s.leads.length).leads := by
    refine Classical.byContradiction fun hno => ?_
    have h1 := free_count (asc_nodup eZ.asc) eZ.lt
    have h2 : ((List.range s.leads.length).filter (fun c => decide (c ∉ (rrefs (fun k t => Y k (s.leads.getD t 0)) r s.leads.length).leads))) = [] := by
      rw [List.filter_eq_nil_iff]
      intro a ha hb
      rw [List.mem_range] at ha
      exact hno ⟨a, ha, of_decide_eq_true hb⟩
    rw [h2, List.length_nil] at h1
    have := eZ.len
    omega
  obtain ⟨c, hc, hcn⟩ := hex
  have hw := kerV_rrefs hc hcn
  have hw1 : kerV (rrefs (fun k t => Y k (s.leads.getD t 0)) r s.leads.length) c c = 1 := if_pos rfl
  generalize kerV (rrefs (fun k t => Y k (s.leads.getD t 0)) r s.leads.length) c = u at *
  have reidx : ∀ f : Nat → Rat, sm (fun j => f j * sm (fun t => if s.leads.getD t 0 = j then u t else 0) s.leads.length) N = sm (fun t => f (s.leads.getD t 0) * u t) s.leads.length := fun f => by
    have e1 : ∀ j, j < N → f j * sm (fun t => if s.leads.getD t 0 = j then u t else 0) s.leads.length = sm (fun t => if s.leads.getD t 0 = j then f (s.leads.getD t 0) * u t else 0) s.leads.length := fun j hj => by
      rw [← sm_mul]
      exact sm_congr fun t _ => by
        show f j * (if s.leads.getD t 0 = j then u t else 0) = _
        split
        · rename_i h; rw [h]
        · grind
    rw [sm_congr e1, sm_comm]
    exact sm_congr fun t ht => by
      have hl : s.leads[t]? = some (s.leads.getD t 0) := by rw [List.getD_eq_getElem?_getD, List.getElem?_eq_getElem ht]; rfl
      rw [sm_single (k := s.leads.getD t 0) (e.lt _ (List.mem_of_getElem? hl)) (fun j _ h => if_neg (fun h' => h h'.symm)), if_pos rfl]
  have hB : Ker B n N (fun j => sm (fun t => if s.leads.getD t 0 = j then u t else 0) s.leads.length) := fun i hi => by
    show sm (fun j => B i j * sm (fun t => if s.leads.getD t 0 = j then u t else 0) s.leads.length) N = 0
    rw [reidx (B i)]
    have e1 : ∀ t, t < s.leads.length → B i (s.leads.getD t 0) * u t = sm (fun k => X i k * (Y k (s.leads.getD t 0) * u t)) r := fun t ht => by
      have hl : s.leads[t]? = some (s.leads.getD t 0) := by rw [List.getD_eq_getElem?_getD, List.getElem?_eq_getElem ht]; rfl
      rw [h i _ hi (e.lt _ (List.mem_of_getElem? hl)), show sm (fun k => X i k * (Y k (s.leads.getD t 0) * u t)) r = sm (fun k => u t * (X i k * Y k (s.leads.getD t 0))) r from sm_congr fun k _ => by grind, sm_mul]
      grind
    rw [sm_congr e1, sm_comm]
    exact sm_zero fun k hk => by
      rw [sm_mul]
      have := hw k hk
      unfold dotR at this
      rw [this]
      grind
  have h1 := (ker_rrefs (M := B) N).2 hB c (by have := e.len; omega)
  rw [hs] at h1
  unfold dotR at h1
  rw [reidx (s.m c)] at h1
  have e2 : ∀ t, t < s.leads.length → s.m c (s.leads.getD t 0) * u t = if t = c then u c else 0 := fun t ht => by
    have hl : s.leads[t]? = some (s.leads.getD t 0) := by rw [List.getD_eq_getElem?_getD, List.getElem?_eq_getElem ht]; rfl
    rw [e.one t _ hl c (by have := e.len; omega)]
    by_cases h : t = c
    · rw [if_pos h, if_pos h.symm, h]; grind
    · rw [if_neg h, if_neg (fun h' => h h'.symm)]; grind
  rw [sm_congr e2, sm_single (k := c) hc (fun t _ h => if_neg h), if_pos rfl, hw1] at h1
  grind
theorem rk_turned (A : Mx) (n N : Nat) : rk (fun i j => A j i) N n = rk A n N := by
  have h : ∀ (A : Mx) (n N : Nat), rk (fun i j => A j i) N n ≤ rk A n N := fun A n N =>
    rk_fact (X := fun j k => (rrefs A n N).m k j) (Y := fun k i => A i ((rrefs A n N).leads.getD k 0)) fun j i hj hi => by
      show A i j = _
      rw [fact_of A n N hi hj]
      exact sm_congr fun k _ => by grind
  exact Nat.le_antisymm (h A n N) (h (fun i j => A j i) N n)

end Go.Proofs.Ytmfigiifflljpaa
