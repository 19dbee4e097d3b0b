/- The ways to divide specimens, one by one, and the first best one. Plain law. No function is named here. -/
import Derived.Test.YtnedgbebajhcpaaDoorOccS
set_option linter.unusedVariables false
set_option linter.unusedSimpArgs false
namespace Go.Proofs.YtnedgbebajhcpaaDoor
open Num

/-- All lists of k + 1 numbers with the sum m, in lexicographic order. -/
def allocs : Nat → Nat → List (List Nat)
  | 0, m => [[m]]
  | k + 1, m => (List.range (m + 1)).flatMap fun f => (allocs k (m - f)).map (f :: ·)
theorem mem_allocs : ∀ {k m : Nat} {l : List Nat}, l ∈ allocs k m ↔ l.length = k + 1 ∧ l.sum = m
  | 0, m, l => by
    unfold allocs
    rw [List.mem_singleton]
    constructor
    · rintro rfl; exact ⟨rfl, by simp⟩
    · rintro ⟨h1, h2⟩
      match l, h1 with
      | [x], _ => rw [List.sum_cons, List.sum_nil, Nat.add_zero] at h2; rw [h2]
  | k + 1, m, l => by
    unfold allocs
    rw [List.mem_flatMap]
    constructor
    · rintro ⟨f, hf, hl⟩
      rw [List.mem_range] at hf
      rw [List.mem_map] at hl
      obtain ⟨t, ht, rfl⟩ := hl
      obtain ⟨h1, h2⟩ := mem_allocs.1 ht
      rw [List.length_cons, List.sum_cons, h1, h2]
      exact ⟨rfl, by omega⟩
    · rintro ⟨h1, h2⟩
      match l, h1 with
      | x :: t, h1 =>
        rw [List.length_cons] at h1
        rw [List.sum_cons] at h2
        refine ⟨x, List.mem_range.2 (by omega), List.mem_map.2 ⟨t, mem_allocs.2 ⟨by omega, by omega⟩, rfl⟩⟩
theorem allocs_ne {k m : Nat} : allocs k m ≠ [] := by
  intro h
  have : (List.replicate k 0 ++ [m]) ∈ allocs k m := mem_allocs.2 ⟨by simp, by simp⟩
  rw [h] at this
  cases this

/-- One that is better takes the place of the best one so far. -/
def better (g : List Nat → Rat) (s : List Nat × Rat) (l : List Nat) : List Nat × Rat := if s.2 < g l then (l, g l) else s
theorem fold_better {g : List Nat → Rat} : ∀ (L : List (List Nat)) (s : List Nat × Rat), s.2 ≤ (L.foldl (better g) s).2 ∧ (∀ l ∈ L, g l ≤ (L.foldl (better g) s).2) ∧ (L.foldl (better g) s = s ∨ ((L.foldl (better g) s).1 ∈ L ∧ (L.foldl (better g) s).2 = g (L.foldl (better g) s).1))
  | [], s => And.intro Rat.le_refl (And.intro (fun (l : List Nat) (hl : l ∈ []) => absurd hl (List.not_mem_nil)) (Or.inl rfl))
  | x :: L, s => by
    rw [List.foldl_cons]
    obtain ⟨h1, h2, h3⟩ := fold_better L (better g s x)
    by_cases hx : s.2 < g x
    · have e : better g s x = (x, g x) := if_pos hx
      rw [e] at h1 h2 h3 ⊢
      have h1' : g x ≤ (L.foldl (better g) (x, g x)).2 := h1
      refine ⟨by grind, fun l hl => ?_, .inr ?_⟩
      · rcases List.mem_cons.1 hl with rfl | hl
        · exact h1'
        · exact h2 l hl
      · rcases h3 with h | ⟨h, h'⟩
        · rw [h]; exact ⟨List.mem_cons_self, rfl⟩
        · exact ⟨List.mem_cons_of_mem _ h, h'⟩
    · have e : better g s x = s := if_neg hx
      rw [e] at h1 h2 h3 ⊢
      refine ⟨h1, fun l hl => ?_, ?_⟩
      · rcases List.mem_cons.1 hl with rfl | hl
        · grind
        · exact h2 l hl
      · rcases h3 with h | ⟨h, h'⟩
        · exact .inl h
        · exact .inr ⟨List.mem_cons_of_mem _ h, h'⟩
/-- What a call behind some first numbers does to the best one. -/
def visit (g : List Nat → Rat) (k : Nat) (pre : List Nat) (left : Nat) (s : List Nat × Rat) : List Nat × Rat := (allocs k left).foldl (fun s t => better g s (pre ++ t)) s
theorem visit_zero {g : List Nat → Rat} {pre : List Nat} {left : Nat} {s : List Nat × Rat} : visit g 0 pre left s = better g s (pre ++ [left]) := rfl
theorem visit_succ {g : List Nat → Rat} {k left : Nat} {pre : List Nat} {s : List Nat × Rat} : visit g (k + 1) pre left s = (List.range (left + 1)).foldl (fun s f => visit g k (pre ++ [f]) (left - f) s) s := by
  unfold visit
  rw [allocs, List.foldl_flatMap]
  congr 1
  funext s f
  rw [List.foldl_map]
  congr 1
  funext s t
  rw [List.append_assoc, List.singleton_append]
theorem visit_nil {g : List Nat → Rat} {k m : Nat} {s : List Nat × Rat} : visit g k [] m s = (allocs k m).foldl (better g) s := rfl

theorem sumQ_congr' {f g : Nat → Rat} : ∀ {m : Nat}, (∀ i, i < m → f i = g i) → sumQ f m = sumQ g m
  | 0, _ => rfl
  | m + 1, h => by rw [sumQ_succ, sumQ_succ, sumQ_congr' (fun i hi => h i (by omega)), h m (by omega)]
theorem sumQ_put {f : Nat → Rat} {k : Nat} {x : Rat} : ∀ {m : Nat}, k < m → sumQ (fun j => if j = k then x else f j) m = sumQ f m - f k + x
  | 0, h => by omega
  | m + 1, h => by
    rw [sumQ_succ, sumQ_succ]
    by_cases hk : k = m
    · subst hk
      rw [if_pos rfl, sumQ_congr' (g := f) (fun i hi => if_neg (by omega))]
      grind
    · rw [if_neg (Ne.symm hk), sumQ_put (show k < m by omega)]
      grind
/-- A specimen goes from the series i to the series k. -/
def move (l : Nat → Nat) (i k : Nat) : Nat → Nat := fun j => if j = i then l i - 1 else if j = k then l k + 1 else l j
theorem gain_move {D l : Nat → Nat} {m i k : Nat} (hD : ∀ i, i < m → 1 ≤ D i) (hi : i < m) (hk : k < m) (hik : i ≠ k) (h0 : 0 < l i) : gainQ D (move l i k) m = gainQ D l m + dlt (D k) (l k) - dlt (D i) (l i - 1) := by
  unfold gainQ
  have e : sumQ (fun j => meanQ (move l i k j) (D j)) m = sumQ (fun j => if j = i then meanQ (l i - 1) (D i) else (fun j => if j = k then meanQ (l k + 1) (D k) else (fun j => meanQ (l j) (D j)) j) j) m := by
    refine sumQ_congr' fun j hj => ?_
    unfold move
    by_cases h1 : j = i
    · subst h1; rw [if_pos rfl, if_pos rfl]
    · rw [if_neg h1, if_neg h1]
      by_cases h2 : j = k
      · subst h2; rw [if_pos rfl]; exact (if_pos rfl).symm
      · rw [if_neg h2]; exact (if_neg h2).symm
  rw [e, sumQ_put hi, sumQ_put hk]
  rw [if_neg hik]
  have h1 := meanQ_next (n := l k) (hD k hk)
  have h2 := meanQ_next (n := l i - 1) (hD i hi)
  rw [show l i - 1 + 1 = l i from by omega] at h2
  grind

/-- A list, read as a function. -/
def at0 (l : List Nat) : Nat → Nat := fun i => l.getD i 0
theorem sum_at0 (l : List Nat) : ∀ (k : Nat), k ≤ l.length → (l.take k).sum = sumTo (at0 l) k
  | 0, _ => by rw [List.take_zero]; rfl
  | k + 1, h => by
    rw [sumTo_succ, ← sum_at0 l k (by omega), List.take_add_one, List.sum_append]
    unfold at0
    rw [List.getElem?_eq_getElem (by omega), List.getD_eq_getElem?_getD, List.getElem?_eq_getElem (by omega)]
    simp
theorem sum_at {l : List Nat} {k : Nat} (h : l.length = k) : l.sum = sumTo (at0 l) k := by
  rw [← sum_at0 l k (by omega), List.take_of_length_le (by omega)]
/-- The gain of a list of specimens in the series of a plan. -/
def gl (D l : List Nat) : Rat := gainQ (at0 D) (at0 l) D.length
theorem sumQ_nonneg' {f : Nat → Rat} : ∀ {m : Nat}, (∀ i, i < m → 0 ≤ f i) → 0 ≤ sumQ f m
  | 0, _ => Rat.le_refl
  | m + 1, h => by
    rw [sumQ_succ]
    have := sumQ_nonneg' (m := m) (fun i hi => h i (by omega))
    have := h m (by omega)
    grind
theorem meanQ_nonneg {D : Nat} (hD : 1 ≤ D) (n : Nat) : 0 ≤ meanQ n D := by
  have h := mean_down (D := D) (n := 0) hD n
  have h0 : meanQ 0 D = 0 := by
    rw [meanQ_pw hD]
    have : dlt D 0 = 1 := rfl
    rw [this]; grind
  have h1 : (0 : Rat) ≤ (n : Rat) * dlt D (0 + n - 1) := Rat.mul_nonneg (by exact_mod_cast Nat.zero_le _) (dlt_nonneg _ _)
  rw [Nat.zero_add, h0] at h
  rw [Nat.zero_add] at h1
  grind
theorem gl_nonneg {D l : List Nat} (hD : ∀ d ∈ D, 1 ≤ d) : 0 ≤ gl D l := by
  refine sumQ_nonneg' fun i hi => meanQ_nonneg ?_ _
  unfold at0
  rw [List.getD_eq_getElem?_getD, List.getElem?_eq_getElem hi]
  exact hD _ (List.getElem_mem hi)
/-- The first best way. -/
def bestL (D : List Nat) (m : Nat) : List Nat × Rat := (allocs (D.length - 1) m).foldl (better (gl D)) ([], -1)
theorem bestL_first {D : List Nat} {m : Nat} (hD : ∀ d ∈ D, 1 ≤ d) {x : List Nat} {t : List (List Nat)} (h : allocs (D.length - 1) m = x :: t) : bestL D m = t.foldl (better (gl D)) (x, gl D x) := by
  unfold bestL
  rw [h, List.foldl_cons]
  have := gl_nonneg (l := x) hD
  have e : better (gl D) ([], -1) x = (x, gl D x) := if_pos (show (-1 : Rat) < gl D x by grind)
  rw [e]
theorem bestL_mem {D : List Nat} {m : Nat} (hD : ∀ d ∈ D, 1 ≤ d) (hlen : 1 ≤ D.length) : (bestL D m).1.length = D.length ∧ (bestL D m).1.sum = m ∧ (bestL D m).2 = gl D (bestL D m).1 := by
  obtain ⟨h1, h2, h3⟩ := fold_better (g := gl D) (allocs (D.length - 1) m) ([], -1)
  rcases h3 with h3 | ⟨h3, h4⟩
  · exfalso
    cases hx : allocs (D.length - 1) m with
    | nil => exact allocs_ne hx
    | cons x t =>
      have := h2 x (by rw [hx]; exact List.mem_cons_self)
      rw [h3] at this
      have := gl_nonneg (l := x) hD
      grind
  · obtain ⟨h5, h6⟩ := mem_allocs.1 h3
    exact ⟨by unfold bestL; omega, h6, h4⟩
theorem bestL_ge {D l : List Nat} {m : Nat} (hlen : 1 ≤ D.length) (hl : l.length = D.length) (hs : l.sum = m) : gl D l ≤ (bestL D m).2 :=
  (fold_better (g := gl D) (allocs (D.length - 1) m) ([], -1)).2.1 l (mem_allocs.2 ⟨by omega, hs⟩)
theorem at0_ge {D : List Nat} (hD : ∀ d ∈ D, 1 ≤ d) : ∀ i, i < D.length → 1 ≤ at0 D i := by
  intro i hi
  unfold at0
  rw [List.getD_eq_getElem?_getD, List.getElem?_eq_getElem hi]
  exact hD _ (List.getElem_mem hi)
/-- The list from which a specimen of i goes to k. -/
def moved (l : List Nat) (i k : Nat) : List Nat := (l.set i (at0 l i - 1)).set k (at0 l k + 1)
theorem moved_at {l : List Nat} {i k : Nat} (hi : i < l.length) (hk : k < l.length) (hik : i ≠ k) : at0 (moved l i k) = move (at0 l) i k := by
  funext j
  unfold moved at0 move
  rw [List.getD_eq_getElem?_getD, List.getElem?_set, List.getElem?_set]
  by_cases h1 : j = i
  · subst h1
    rw [if_neg (Ne.symm hik), if_pos rfl, if_pos rfl, if_pos hi]; rfl
  · rw [if_neg h1]
    by_cases h2 : j = k
    · subst h2
      rw [if_pos rfl, if_pos rfl, if_pos (by rw [List.length_set]; exact hk)]; rfl
    · rw [if_neg h2, if_neg (Ne.symm h2), if_neg (Ne.symm h1)]
      exact (List.getD_eq_getElem?_getD ..).symm
theorem moved_length {l : List Nat} {i k : Nat} : (moved l i k).length = l.length := by
  unfold moved; rw [List.length_set, List.length_set]
theorem sumTo_put {f : Nat → Nat} {k x : Nat} : ∀ {m : Nat}, k < m → sumTo (fun j => if j = k then x else f j) m + f k = sumTo f m + x
  | 0, h => by omega
  | m + 1, h => by
    rw [sumTo_succ, sumTo_succ]
    by_cases hk : k = m
    · subst hk
      rw [if_pos rfl, sumTo_congr (g := f) (fun i hi => if_neg (by omega))]
      omega
    · have := sumTo_put (f := f) (x := x) (show k < m by omega)
      rw [if_neg (Ne.symm hk)]
      omega
theorem move_sum {l : Nat → Nat} {m i k : Nat} (hi : i < m) (hk : k < m) (hik : i ≠ k) (h0 : 0 < l i) : sumTo (move l i k) m = sumTo l m := by
  have h1 := sumTo_put (f := fun j => if j = k then l k + 1 else l j) (x := l i - 1) hi
  have h2 := sumTo_put (f := l) (x := l k + 1) hk
  have e : sumTo (move l i k) m = sumTo (fun j => if j = i then l i - 1 else (fun j => if j = k then l k + 1 else l j) j) m := rfl
  rw [if_neg hik] at h1
  show sumTo (fun j => if j = i then l i - 1 else if j = k then l k + 1 else l j) m = _
  omega
/-- What a move improves is not the best; what none improves is. -/
theorem bestL_moves {D l : List Nat} {m : Nat} (hD : ∀ d ∈ D, 1 ≤ d) (hlen : 1 ≤ D.length) (hl : l.length = D.length) (hs : l.sum = m) :
    gl D l < (bestL D m).2 ↔ ∃ i k, i < D.length ∧ k < D.length ∧ i ≠ k ∧ 0 < at0 l i ∧ gl D l < gl D (moved l i k) := by
  constructor
  · intro h
    refine Classical.byContradiction fun hno => ?_
    obtain ⟨b1, b2, b3⟩ := bestL_mem (m := m) hD hlen
    have := local_best (D := at0 D) (l := at0 l) (a := at0 (bestL D m).1) (m := D.length) (at0_ge hD) (by rw [← sum_at hl, ← sum_at b1, hs, b2]) (fun i k hi hk hik h0 => by
      have hg := gain_move (D := at0 D) (l := at0 l) (at0_ge hD) hi hk hik h0
      have hx : ¬ gl D l < gl D (moved l i k) := fun hc => hno ⟨i, k, hi, hk, hik, h0, hc⟩
      unfold gl at hx
      rw [moved_at (by omega) (by omega) hik, hg] at hx
      grind)
    rw [b3] at h
    unfold gl at h
    grind
  · rintro ⟨i, k, hi, hk, hik, h0, h⟩
    have hm : (moved l i k).sum = m := by
      rw [sum_at (k := D.length) (by rw [moved_length, hl]), moved_at (by omega) (by omega) hik, move_sum hi hk hik h0, ← sum_at hl, hs]
    have := bestL_ge (D := D) (l := moved l i k) hlen (by rw [moved_length, hl]) hm
    grind

/-- The sum of Good and Toulmin: signs and powers of t. -/
def toulF (f : Nat → Rat) (t : Rat) : Nat → Rat := fun i => (- pw (-t) (i + 1)) * f i
theorem toul_add {f g : Nat → Rat} {t : Rat} {m : Nat} : sumQ (toulF (fun i => f i + g i) t) m = sumQ (toulF f t) m + sumQ (toulF g t) m := by
  induction m with
  | zero => show (0 : Rat) = 0 + 0; grind
  | succ m ih => rw [sumQ_succ, sumQ_succ, sumQ_succ, ih]; unfold toulF; grind
theorem toul_zero {f : Nat → Rat} {m : Nat} : sumQ (toulF f 0) m = 0 := by
  induction m with
  | zero => rfl
  | succ m ih =>
    rw [sumQ_succ, ih]
    unfold toulF
    have e : pw (-(0 : Rat)) (m + 1) = pw (-(0 : Rat)) m * (-0) := rfl
    rw [e]; grind

end Go.Proofs.YtnedgbebajhcpaaDoor
