/- Plain law of determinants. No function is named here. -/
import Derived.Test.YtmfigiifflljpaaMetP
set_option linter.unusedVariables false
set_option linter.unusedSimpArgs false
namespace Go.Proofs.Ytmfigiifflljpaa
open Num

def sg (i : Nat) : Rat := if i % 2 = 0 then 1 else -1
theorem sg_succ (i : Nat) : sg (i + 1) = -sg i := by
  unfold sg
  by_cases h : i % 2 = 0
  · rw [if_pos h, if_neg (by omega)]
  · rw [if_neg h, if_pos (by omega)]; grind
/-- Without row i and the first column. -/
def minr (M : Mx) (i : Nat) : Mx := fun a b => M (if a < i then a else a + 1) (b + 1)
theorem minr_at {M : Mx} {i a b : Nat} : minr M i a b = M (if a < i then a else a + 1) (b + 1) := rfl
theorem swp_at2 {M : Mx} {k p i j : Nat} : swp M k p i j = if i = k then M p j else if i = p then M k j else M i j := by
  rw [swp_at]
  split
  · rfl
  · split <;> rfl
def det : Nat → Mx → Rat
  | 0, _ => 1
  | n + 1, M => sm (fun i => sg i * M i 0 * det n (minr M i)) (n + 1)
theorem det_succ (n : Nat) (M : Mx) : det (n + 1) M = sm (fun i => sg i * M i 0 * det n (minr M i)) (n + 1) := rfl
theorem det_congr : ∀ {n : Nat} {M M' : Mx}, (∀ i j, i < n → j < n → M i j = M' i j) → det n M = det n M'
  | 0, _, _, _ => rfl
  | n + 1, M, M', h => by
    rw [det_succ, det_succ]
    refine sm_congr fun i hi => ?_
    rw [h i 0 hi (by omega), det_congr (M := minr M i) (M' := minr M' i) fun a b ha hb => ?_]
    unfold minr
    split
    · exact h _ _ (by omega) (by omega)
    · exact h _ _ (by omega) (by omega)
/-- Another row in the place of row x. -/
def setr (M : Mx) (x : Nat) (u : Nat → Rat) : Mx := fun i => if i = x then u else M i
theorem setr_at {M : Mx} {x i j : Nat} {u : Nat → Rat} : setr M x u i j = if i = x then u j else M i j := by
  unfold setr
  split <;> rfl
theorem setr_self (M : Mx) (x : Nat) : setr M x (M x) = M := by
  funext i
  unfold setr
  split
  · rename_i h; rw [h]
  · rfl
theorem minr_set {M : Mx} {x i : Nat} {u : Nat → Rat} (h : i ≠ x) : minr (setr M x u) i = setr (minr M i) (if x < i then x else x - 1) fun j => u (j + 1) := by
  funext a b
  simp only [minr_at, setr_at]
  grind
theorem minr_set_self {M : Mx} {x : Nat} {u : Nat → Rat} : minr (setr M x u) x = minr M x := by
  funext a b
  unfold minr
  rw [setr_at, if_neg (by split <;> omega)]
theorem det_lin : ∀ (n : Nat) (M : Mx) (x : Nat) (u v : Nat → Rat) (t : Rat), x < n → det n (setr M x fun j => u j + t * v j) = det n (setr M x u) + t * det n (setr M x v)
  | 0, M, x, u, v, t, h => by omega
  | n + 1, M, x, u, v, t, h => by
    rw [det_succ, det_succ, det_succ, ← sm_mul, ← sm_add]
    refine sm_congr fun i hi => ?_
    by_cases hx : i = x
    · subst hx
      rw [minr_set_self, minr_set_self, minr_set_self, setr_at, setr_at, setr_at, if_pos rfl, if_pos rfl, if_pos rfl]
      grind
    · rw [minr_set hx, minr_set hx, minr_set hx, setr_at, setr_at, setr_at, if_neg hx, if_neg hx, if_neg hx]
      rw [det_lin n (minr M i) (if x < i then x else x - 1) (fun j => u (j + 1)) (fun j => v (j + 1)) t (by split <;> omega)]
      grind
theorem sm_trans (f : Nat → Rat) (k : Nat) : ∀ n, k + 1 < n → sm (fun i => if i = k then f (k + 1) else if i = k + 1 then f k else f i) n = sm f n
  | 0, h => by omega
  | n + 1, h => by
    rw [sm_succ, sm_succ]
    by_cases hk : n = k + 1
    · subst hk
      have e : sm (fun i => if i = k then f (k + 1) else if i = k + 1 then f k else f i) k = sm f k := sm_congr fun i hi => by
        rw [if_neg (by omega), if_neg (by omega)]
      rw [sm_succ, sm_succ, e]
      grind
    · rw [sm_trans f k n (by omega)]
      grind
theorem det_adj : ∀ (n : Nat) (M : Mx) (k : Nat), k + 1 < n → det n (swp M k (k + 1)) = -det n M
  | 0, M, k, h => by omega
  | n + 1, M, k, h => by
    have e : ∀ i, i < n + 1 → sg i * swp M k (k + 1) i 0 * det n (minr (swp M k (k + 1)) i) = if i = k then (-1) * (sg (k + 1) * M (k + 1) 0 * det n (minr M (k + 1))) else if i = k + 1 then (-1) * (sg k * M k 0 * det n (minr M k)) else (-1) * (sg i * M i 0 * det n (minr M i)) := fun i hi => by
      rw [swp_at]
      by_cases h1 : i = k
      · subst h1
        rw [if_pos rfl, if_pos rfl, sg_succ]
        have : minr (swp M i (i + 1)) i = minr M (i + 1) := by
          funext a b
          simp only [minr_at, swp_at2]
          grind
        rw [this]
        grind
      · rw [if_neg h1, if_neg h1]
        by_cases h2 : i = k + 1
        · subst h2
          rw [if_pos rfl, if_pos rfl, sg_succ]
          have : minr (swp M k (k + 1)) (k + 1) = minr M k := by
            funext a b
            simp only [minr_at, swp_at2]
            grind
          rw [this]
          grind
        · rw [if_neg h2, if_neg h2]
          have : minr (swp M k (k + 1)) i = swp (minr M i) (if k < i then k else k - 1) ((if k < i then k else k - 1) + 1) := by
            funext a b
            simp only [minr_at, swp_at2]
            grind
          rw [this, det_adj n (minr M i) _ (by split <;> omega)]
          grind
    rw [det_succ, det_succ, sm_congr e]
    rw [sm_trans (fun i => (-1) * (sg i * M i 0 * det n (minr M i))) k (n + 1) h, sm_mul]
    grind
/-- Two equal rows. -/
theorem det_eq : ∀ (d n : Nat) (M : Mx) (x : Nat), x + d + 1 < n → (∀ j, j < n → M x j = M (x + d + 1) j) → det n M = 0
  | 0, n, M, x, h, he => by
    have h1 := det_adj n M x h
    have h2 : det n (swp M x (x + 1)) = det n M := det_congr fun i j hi hj => by
      rw [swp_at]
      split
      · rename_i h; rw [h, he j hj]
      · split
        · rename_i h; rw [h, he j hj]
        · rfl
    rw [h2] at h1
    grind
  | d + 1, n, M, x, h, he => by
    have h1 := det_adj n M (x + d + 1) (by omega)
    have h2 : det n (swp M (x + d + 1) (x + d + 1 + 1)) = 0 := det_eq d n _ x (by omega) fun j hj => by
      rw [swp_at, swp_at, if_neg (by omega), if_neg (by omega), if_pos rfl]
      exact he j hj
    rw [h2] at h1
    grind
theorem det_eq' {n : Nat} {M : Mx} {x y : Nat} (hx : x < n) (hy : y < n) (hne : x ≠ y) (he : ∀ j, j < n → M x j = M y j) : det n M = 0 := by
  rcases Nat.lt_or_gt_of_ne hne with h | h
  · exact det_eq (y - x - 1) n M x (by omega) fun j hj => by rw [show x + (y - x - 1) + 1 = y from by omega]; exact he j hj
  · exact det_eq (x - y - 1) n M y (by omega) fun j hj => by rw [show y + (x - y - 1) + 1 = x from by omega]; exact (he j hj).symm
/-- A multiple of a row is added to another one. -/
theorem det_add {n : Nat} {M : Mx} {x y : Nat} (t : Rat) (hx : x < n) (hy : y < n) (hne : x ≠ y) : det n (setr M x fun j => M x j + t * M y j) = det n M := by
  rw [det_lin n M x (M x) (M y) t hx, setr_self]
  rw [det_eq' (M := setr M x (M y)) hx hy hne fun j _ => by rw [setr_at, setr_at, if_pos rfl, if_neg (fun h => hne h.symm)]]
  grind
theorem det_swp {n : Nat} {M : Mx} {x y : Nat} (hx : x < n) (hy : y < n) (hne : x ≠ y) : det n (swp M x y) = -det n M := by
  have hne' : ¬ y = x := fun h => hne h.symm
  -- both rows are the sum of the two
  have h0 : det n (setr (setr M x fun j => M x j + 1 * M y j) y fun j => M x j + 1 * M y j) = 0 := det_eq' hx hy hne fun j _ => by
    rw [setr_at, setr_at, if_neg hne, if_pos rfl, setr_at, if_pos rfl]
  rw [det_lin _ _ _ _ _ _ hy] at h0
  have swap : ∀ (u v : Nat → Rat), setr (setr M x u) y v = setr (setr M y v) x u := fun u v => by
    funext i j
    rw [setr_at, setr_at, setr_at, setr_at]
    by_cases h1 : i = y
    · rw [if_pos h1, if_neg (by omega), if_pos h1]
    · rw [if_neg h1, if_neg h1]
  rw [swap, swap, det_lin _ _ _ _ _ _ hx, det_lin _ _ _ _ _ _ hx] at h0
  have e1 : det n (setr (setr M y (M x)) x (M x)) = 0 := det_eq' hx hy hne fun j _ => by simp only [setr]; grind
  have e2 : det n (setr (setr M y (M y)) x (M y)) = 0 := det_eq' hx hy hne fun j _ => by simp only [setr]; grind
  have e3 : setr (setr M y (M y)) x (M x) = M := by rw [setr_self, setr_self]
  have e4 : setr (setr M y (M x)) x (M y) = swp M x y := by
    funext i j
    rw [setr_at, setr_at, swp_at]
    split
    · rfl
    · split <;> rfl
  rw [e1, e2, e3, e4] at h0
  grind
theorem det_scale {n : Nat} {M : Mx} {x : Nat} (u : Nat → Rat) (t : Rat) (hx : x < n) : det n (setr M x fun j => t * u j) = t * det n (setr M x u) := by
  have h0 := det_lin n M x u u (-1) hx
  have h1 := det_lin n M x (fun j => u j + (-1) * u j) u t hx
  rw [h0] at h1
  have h2 : (setr M x fun j => u j + (-1) * u j + t * u j) = setr M x fun j => t * u j := by
    congr 1
    funext j
    grind
  rw [h2] at h1
  grind
theorem det_col0 {n : Nat} {M : Mx} (h : ∀ i, i < n + 1 → M i 0 = 0) : det (n + 1) M = 0 := by
  rw [det_succ]
  exact sm_zero fun i hi => by rw [h i hi]; grind
theorem det_first {n : Nat} {M : Mx} (h : ∀ i, 1 ≤ i → i < n + 1 → M i 0 = 0) : det (n + 1) M = M 0 0 * det n (fun a b => M (a + 1) (b + 1)) := by
  rw [det_succ, sm_single (k := 0) (by omega) fun i hi hne => by rw [h i (by omega) hi]; grind]
  have : minr M 0 = fun a b => M (a + 1) (b + 1) := by
    funext a b
    unfold minr
    rw [if_neg (by omega)]
  rw [this]
  unfold sg
  rw [if_pos rfl]
  grind
/-- The first row is taken from the others as often as f says. -/
theorem det_elim {n : Nat} {T : Mx} (f : Nat → Rat) : det (n + 1) (fun i j => if i = 0 then T 0 j else T i j - f i * T 0 j) = det (n + 1) T := by
  have h : ∀ r, r < n + 1 → det (n + 1) (fun i j => if 1 ≤ i ∧ i ≤ r then T i j - f i * T 0 j else T i j) = det (n + 1) T := by
    intro r
    induction r with
    | zero => intro _; exact det_congr fun i j _ _ => if_neg (by omega)
    | succ r ih =>
      intro hr
      rw [← ih (by omega), ← det_add (M := fun i j => if 1 ≤ i ∧ i ≤ r then T i j - f i * T 0 j else T i j) (x := r + 1) (y := 0) (-f (r + 1)) hr (by omega) (by omega)]
      refine det_congr fun i j _ _ => ?_
      rw [setr_at]
      by_cases h1 : i = r + 1
      · rw [if_pos h1, if_pos (by omega), if_neg (by omega), if_neg (by omega), h1]; grind
      · rw [if_neg h1]
        by_cases h2 : 1 ≤ i ∧ i ≤ r
        · rw [if_pos h2, if_pos (by omega)]
        · rw [if_neg h2, if_neg (by omega)]
  rw [← h n (by omega)]
  refine det_congr fun i j hi _ => ?_
  by_cases h0 : i = 0
  · rw [if_pos h0, if_neg (by omega), h0]
  · rw [if_neg h0, if_pos (by omega)]

/-- From row and column c on. -/
def tail (M : Mx) (c : Nat) : Mx := fun a b => M (c + a) (c + b)
/-- A column whose rest is zero. -/
theorem tail_zero {M : Mx} {n c : Nat} (hc : c < n) (h : ∀ i, c ≤ i → i < n → M i c = 0) : det (n - c) (tail M c) = 0 := by
  obtain ⟨m, hm⟩ : ∃ m, n - c = m + 1 := ⟨n - c - 1, by omega⟩
  rw [hm]
  exact det_col0 fun i hi => h (c + i) (by omega) (by omega)
/-- One step of an elimination: the rows behind c are cleared by any multiples. -/
theorem tail_step {M M' : Mx} {n c p : Nat} (f : Nat → Rat) (hcp : c ≤ p) (hp : p < n) (h : ∀ i j, c < i → i < n → c ≤ j → j < n → M' i j = swp M c p i j - f i * M p j) (h0 : ∀ i, c < i → i < n → M' i c = 0) :
    det (n - c) (tail M c) = (if p = c then 1 else -1) * M p c * det (n - (c + 1)) (tail M' (c + 1)) := by
  obtain ⟨m, hm⟩ : ∃ m, n - c = m + 1 := ⟨n - c - 1, by omega⟩
  have hm2 : n - (c + 1) = m := by omega
  rw [hm, hm2]
  have hsw : ∀ a b, swp (tail M c) 0 (p - c) a b = swp M c p (c + a) (c + b) := fun a b => by
    simp only [swp_at2]
    simp only [tail]
    have h1 : c + (p - c) = p := by omega
    grind
  have e1 : det (m + 1) (tail M c) = (if p = c then 1 else -1) * det (m + 1) (swp (tail M c) 0 (p - c)) := by
    by_cases h1 : p = c
    · subst h1
      rw [if_pos rfl, Nat.sub_self]
      have : swp (tail M p) 0 0 = tail M p := by
        funext a
        rw [swp_at]
        split
        · rename_i h; rw [h]
        · rfl
      rw [this]
      grind
    · rw [if_neg h1, det_swp (by omega) (by omega) (by omega)]
      grind
  have hpp : ∀ b, swp M c p c b = M p b := fun b => by rw [swp_at, if_pos rfl]
  rw [e1, ← det_elim (T := swp (tail M c) 0 (p - c)) fun a => f (c + a), det_first fun i h1 h2 => by
    show (if i = 0 then _ else swp (tail M c) 0 (p - c) i 0 - f (c + i) * swp (tail M c) 0 (p - c) 0 0) = 0
    rw [if_neg (by omega), hsw, hsw, Nat.add_zero, hpp, ← h (c + i) c (by omega) (by omega) (Nat.le_refl _) (by omega)]
    exact h0 _ (by omega) (by omega)]
  rw [if_pos rfl, hsw, Nat.add_zero, hpp]
  have e2 : det m (fun a b => if a + 1 = 0 then swp (tail M c) 0 (p - c) 0 (b + 1) else swp (tail M c) 0 (p - c) (a + 1) (b + 1) - f (c + (a + 1)) * swp (tail M c) 0 (p - c) 0 (b + 1)) = det m (tail M' (c + 1)) := det_congr fun a b ha hb => by
    rw [if_neg (by omega), hsw, hsw, Nat.add_zero c, hpp]
    unfold tail
    rw [show c + 1 + a = c + (a + 1) from by omega, show c + 1 + b = c + (b + 1) from by omega]
    exact (h _ _ (by omega) (by omega) (by omega) (by omega)).symm
  rw [e2]
  grind

/-- What the reduced form's number is. -/
theorem rdet (A : Mx) (n : Nat) : ∀ c, c ≤ n →
    ((rrefs A n c).leads.length = c ∧ (rrefs A n c).det ≠ 0 ∧ (rrefs A n c).det * det (n - c) (tail (rrefs A n c).m c) = det n A) ∨ ((rrefs A n c).leads.length < c ∧ (rrefs A n c).det = 0 ∧ det n A = 0)
  | 0, _ => .inl ⟨rfl, by show (1 : Rat) ≠ 0; decide, by
    show (1 : Rat) * det n (tail A 0) = det n A
    have : tail A 0 = A := by funext a b; unfold tail; rw [Nat.zero_add, Nat.zero_add]
    rw [this]
    grind⟩
  | c + 1, hc => by
    have hl := (ech A n c).len
    have ih := rdet A n c (by omega)
    rw [rrefs_succ]
    generalize rrefs A n c = s at *
    obtain ⟨⟨a1, a2⟩, a3, a4⟩ := piv_spec s.m (n := n) (c := c) (k := s.leads.length) hl
    by_cases hp : piv s.m n c s.leads.length = n
    · rw [stepR_no hp]
      refine .inr ?_
      rcases ih with ⟨i1, i2, i3⟩ | ⟨i1, i2, i3⟩
      · refine ⟨by show s.leads.length < c + 1; omega, rfl, ?_⟩
        rw [← i3, tail_zero (by omega) fun i h1 h2 => a3 i (by omega) (by omega)]
        grind
      · exact ⟨by show s.leads.length < c + 1; omega, rfl, i3⟩
    · rw [stepR_yes hp]
      have hne : s.m (piv s.m n c s.leads.length) c ≠ 0 := by
        rcases a4 with a4 | a4
        · exact absurd a4 hp
        · exact a4
      generalize hpv : piv s.m n c s.leads.length = p at *
      rcases ih with ⟨i1, i2, i3⟩ | ⟨i1, i2, i3⟩
      · refine .inl ⟨by rw [List.length_append]; show s.leads.length + 1 = c + 1; omega, ?_, ?_⟩
        · show (if p = s.leads.length then s.det else -s.det) * s.m p c ≠ 0
          intro h
          rcases Rat.mul_eq_zero.1 h with h | h
          · split at h
            · exact i2 h
            · exact i2 (by grind)
          · exact hne h
        · show (if p = s.leads.length then s.det else -s.det) * s.m p c * det (n - (c + 1)) (tail (elm (scl (swp s.m s.leads.length p) s.leads.length c) s.leads.length c) (c + 1)) = det n A
          subst i1
          rw [← i3]
          rw [tail_step (M := s.m) (M' := elm (scl (swp s.m s.leads.length p) s.leads.length s.leads.length) s.leads.length s.leads.length) (p := p) (fun i => swp s.m s.leads.length p i s.leads.length / s.m p s.leads.length) a1 (by omega) (fun i j h1 h2 h3 h4 => by
            rw [step_at, if_neg (by omega), Rat.div_def, Rat.div_def]; grind) (fun i h1 h2 => by
            rw [step_at, if_neg (by omega), Rat.div_def]; grind)]
          split <;> grind
      · refine .inr ⟨by rw [List.length_append]; show s.leads.length + 1 < c + 1; omega, ?_, i3⟩
        show (if p = s.leads.length then s.det else -s.det) * s.m p c = 0
        rw [i2]
        split <;> grind
theorem rdet_all (A : Mx) (n : Nat) : (rrefs A n n).det = det n A ∧ (det n A = 0 ↔ rk A n n < n) := by
  have h := rdet A n n (Nat.le_refl _)
  rw [Nat.sub_self] at h
  rcases h with ⟨h1, h2, h3⟩ | ⟨h1, h2, h3⟩
  · have h4 : (rrefs A n n).det = det n A := by rw [← h3]; show _ = _ * (1 : Rat); grind
    exact ⟨h4, fun h => absurd (h4.trans h) h2, fun h => by unfold rk at h; omega⟩
  · exact ⟨h2.trans h3.symm, fun _ => h1, fun _ => h3⟩

/-! The program's elimination: rows behind the pivot alone. -/
def stepD (M : Mx) (c p : Nat) : Mx := fun i j => if c < i ∧ c ≤ j then swp M c p i j - swp M c p i c / M p c * M p j else swp M c p i j
/-- What a step does to the number. -/
theorem stepD_no {M : Mx} {n c : Nat} {acc D : Rat} (hc : c < n) (h : acc * det (n - c) (tail M c) = D) (hp : piv M n c c = n) : D = 0 := by
  obtain ⟨⟨a1, a2⟩, a3, a4⟩ := piv_spec M (n := n) (c := c) (k := c) (by omega)
  rw [← h, tail_zero hc fun i h1 h2 => a3 i h1 (by omega)]
  grind
theorem stepD_yes {M : Mx} {n c : Nat} {acc D : Rat} (hc : c < n) (h : acc * det (n - c) (tail M c) = D) (hp : piv M n c c ≠ n) : (if piv M n c c = c then acc else -acc) * M (piv M n c c) c * det (n - (c + 1)) (tail (stepD M c (piv M n c c)) (c + 1)) = D := by
  obtain ⟨⟨a1, a2⟩, a3, a4⟩ := piv_spec M (n := n) (c := c) (k := c) (by omega)
  have hne : M (piv M n c c) c ≠ 0 := by
    rcases a4 with a4 | a4
    · exact absurd a4 hp
    · exact a4
  generalize piv M n c c = p at *
  rw [← h, tail_step (M := M) (M' := stepD M c p) (p := p) (fun i => swp M c p i c / M p c) a1 (by omega) (fun i j h1 h2 h3 h4 => by
    unfold stepD; rw [if_pos ⟨h1, h3⟩]) (fun i h1 h2 => by
    unfold stepD; rw [if_pos ⟨h1, Nat.le_refl _⟩, Rat.div_def]; grind)]
  split <;> grind

end Go.Proofs.Ytmfigiifflljpaa
