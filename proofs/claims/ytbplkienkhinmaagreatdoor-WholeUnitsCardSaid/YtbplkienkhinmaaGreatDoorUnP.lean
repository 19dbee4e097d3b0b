/- Units of weight, plain law: the spans of a weight, their meet, the errors, on lists of rationals. -/
import Derived.Test.YtbplkienkhinmaaGreatDoorNum
set_option linter.unusedVariables false
set_option linter.unusedSimpArgs false
set_option maxRecDepth 100000
namespace Go.Proofs.YtbplkienkhinmaaGreatDoor
open Num

/-- The least and the greatest unit of which k make a weight. -/
def loQ (w tol : Int) (k : Int) : Rat := ((max (w - tol) 1 : Int) : Rat) / (k : Rat)
def hiQ (w tol : Int) (k : Int) : Rat := ((w + tol : Int) : Rat) / (k : Rat)
/-- One more span. -/
def spStep (out : List (Rat × Rat)) (lo hi : Rat) : List (Rat × Rat) :=
  match out.getLast? with
  | some p => if lo ≤ p.2 then out.dropLast ++ [(p.1, hi)] else out ++ [(lo, hi)]
  | none => out ++ [(lo, hi)]
/-- The spans of the j greatest multiples. -/
def spansTo (w tol : Int) (m : Nat) : Nat → List (Rat × Rat)
  | 0 => []
  | j + 1 => spStep (spansTo w tol m j) (loQ w tol ((m : Int) - j)) (hiQ w tol ((m : Int) - j))
def spansL (w tol : Int) (m : Nat) : List (Rat × Rat) := spansTo w tol m m
/-- A number lies in one of the spans. -/
def inS (ss : List (Rat × Rat)) (x : Rat) : Bool := ss.any fun p => decide (p.1 ≤ x) && decide (x ≤ p.2)
theorem inS_iff {ss : List (Rat × Rat)} {x : Rat} : inS ss x = true ↔ ∃ p ∈ ss, p.1 ≤ x ∧ x ≤ p.2 := by
  unfold inS
  rw [List.any_eq_true]
  constructor
  · rintro ⟨p, hp, h⟩; exact ⟨p, hp, by simpa using h⟩
  · rintro ⟨p, hp, h⟩; exact ⟨p, hp, by simpa using h⟩
theorem inS_append (a b : List (Rat × Rat)) (x : Rat) : inS (a ++ b) x = (inS a x || inS b x) := by unfold inS; rw [List.any_append]

theorem spStep_nil (lo hi : Rat) : spStep [] lo hi = [(lo, hi)] := rfl
theorem spStep_snoc (ini : List (Rat × Rat)) (p : Rat × Rat) (lo hi : Rat) : spStep (ini ++ [p]) lo hi = if lo ≤ p.2 then ini ++ [(p.1, hi)] else ini ++ [p] ++ [(lo, hi)] := by
  unfold spStep
  rw [List.getLast?_append]
  simp

theorem rdiv_le {a b c : Rat} (hb : 0 < b) : a / b ≤ c ↔ a ≤ c * b := by
  have h := Rat.lt_div_iff (a := c) (b := a) hb
  constructor
  · intro h1
    have : ¬ c * b < a := fun h2 => by have := h.2 h2; grind
    grind
  · intro h1
    have : ¬ c < a / b := fun h2 => by have := h.1 h2; grind
    grind
theorem le_rdiv {a b c : Rat} (hb : 0 < b) : c ≤ a / b ↔ c * b ≤ a := by
  have h := Rat.div_lt_iff (a := a) (c := c) hb
  constructor
  · intro h1
    have : ¬ a < c * b := fun h2 => by have := h.2 h2; grind
    grind
  · intro h1
    have : ¬ a / b < c := fun h2 => by have := h.1 h2; grind
    grind
/-- a / j is at most a' / k, if k is at most j. -/
theorem quot_mono {a b : Int} {j k : Int} (hb : 0 ≤ a) (hab : a ≤ b) (hk : 0 < k) (hkj : k ≤ j) : (a : Rat) / (j : Rat) ≤ (b : Rat) / (k : Rat) := by
  have h1 : (0 : Rat) < (j : Rat) := by exact_mod_cast (show (0 : Int) < j by omega)
  have h2 : (0 : Rat) < (k : Rat) := by exact_mod_cast hk
  have h3 : a * k ≤ b * j := Int.mul_le_mul hab hkj (by omega) (by omega)
  have h4 : (a : Rat) * (k : Rat) ≤ (b : Rat) * (j : Rat) := by exact_mod_cast h3
  rw [rdiv_le h1, show (b : Rat) / (k : Rat) * (j : Rat) = ((b : Rat) * (j : Rat)) / (k : Rat) from by rw [Rat.div_def, Rat.div_def]; grind, le_rdiv h2]
  exact h4

/-- A unit fits: some multiple of it is near the weight. -/
def fitQ (w tol : Int) (m : Nat) (j : Nat) (x : Rat) : Prop := ∃ k : Nat, m - j < k ∧ k ≤ m ∧ loQ w tol (k : Int) ≤ x ∧ x ≤ hiQ w tol (k : Int)

theorem spansTo_spec {w tol : Int} {m : Nat} (hw : 1 ≤ w) (ht : 0 ≤ tol) : ∀ {j : Nat}, j ≤ m →
    (∀ x, inS (spansTo w tol m j) x = true ↔ fitQ w tol m j x) ∧ (j = 0 ∨ ∃ ini p, spansTo w tol m j = ini ++ [p] ∧ p.1 ≤ loQ w tol ((m : Int) - j + 1) ∧ p.2 = hiQ w tol ((m : Int) - j + 1))
  | 0, _ => ⟨fun x => (by
      constructor
      · intro h; simp [spansTo, inS] at h
      · rintro ⟨k, h1, h2, _⟩; omega), .inl rfl⟩
  | j + 1, hj => by
    obtain ⟨h1, h2⟩ := spansTo_spec (m := m) hw ht (j := j) (by omega)
    have hkk : ((m - j : Nat) : Int) = (m : Int) - j := by omega
    have step : ∀ x, fitQ w tol m (j + 1) x ↔ fitQ w tol m j x ∨ (loQ w tol ((m : Int) - j) ≤ x ∧ x ≤ hiQ w tol ((m : Int) - j)) := fun x => by
      constructor
      · rintro ⟨k, k1, k2, k3⟩
        by_cases hk : m - j < k
        · exact .inl ⟨k, hk, k2, k3⟩
        · obtain rfl : k = m - j := by omega
          rw [hkk] at k3
          exact .inr k3
      · rintro (⟨k, k1, k2, k3⟩ | k3)
        · exact ⟨k, by omega, k2, k3⟩
        · exact ⟨m - j, by omega, by omega, by rw [hkk]; exact k3⟩
    have e1 : (m : Int) - ((j + 1 : Nat) : Int) + 1 = (m : Int) - j := by omega
    rw [e1]
    show (∀ x, inS (spStep (spansTo w tol m j) (loQ w tol ((m : Int) - j)) (hiQ w tol ((m : Int) - j))) x = true ↔ _) ∧ (_ ∨ ∃ ini p, spStep (spansTo w tol m j) (loQ w tol ((m : Int) - j)) (hiQ w tol ((m : Int) - j)) = _ ∧ _)
    rcases h2 with rfl | ⟨ini, p, e, hp1, hp2⟩
    · refine ⟨fun x => ?_, .inr ⟨[], (loQ w tol ((m : Int) - (0 : Nat)), hiQ w tol ((m : Int) - (0 : Nat))), rfl, Rat.le_refl, rfl⟩⟩
      rw [step]
      show inS (spStep [] _ _) x = true ↔ _
      rw [spStep_nil, inS_iff]
      constructor
      · rintro ⟨p, hp, h3⟩
        rw [List.mem_singleton] at hp
        subst hp
        exact .inr h3
      · rintro (⟨k, k1, k2, _⟩ | h3)
        · omega
        · exact ⟨_, List.mem_singleton.2 rfl, h3⟩
    · have q1 : loQ w tol ((m : Int) - j + 1) ≤ loQ w tol ((m : Int) - j) := by unfold loQ; exact quot_mono (a := max (w - tol) 1) (b := max (w - tol) 1) (by omega) (Int.le_refl _) (by omega) (by omega)
      have q2 : hiQ w tol ((m : Int) - j + 1) ≤ hiQ w tol ((m : Int) - j) := by unfold hiQ; exact quot_mono (a := w + tol) (b := w + tol) (by omega) (Int.le_refl _) (by omega) (by omega)
      rw [e] at h1 ⊢
      rw [spStep_snoc]
      by_cases hl : loQ w tol ((m : Int) - j) ≤ p.2
      · rw [if_pos hl]
        refine ⟨fun x => ?_, .inr ⟨ini, (p.1, hiQ w tol ((m : Int) - j)), rfl, Rat.le_trans hp1 q1, rfl⟩⟩
        rw [step, ← h1 x, inS_append, inS_append]
        have a1 : inS [(p.1, hiQ w tol ((m : Int) - j))] x = true ↔ inS [p] x = true ∨ (loQ w tol ((m : Int) - j) ≤ x ∧ x ≤ hiQ w tol ((m : Int) - j)) := by
          rw [inS_iff, inS_iff]
          constructor
          · rintro ⟨p', hp', g1, g2⟩
            rw [List.mem_singleton] at hp'
            subst hp'
            by_cases hx : x ≤ p.2
            · exact .inl ⟨p, List.mem_singleton.2 rfl, g1, hx⟩
            · exact .inr ⟨by grind, g2⟩
          · rintro (⟨p', hp', g1, g2⟩ | ⟨g1, g2⟩)
            · rw [List.mem_singleton] at hp'
              subst hp'
              exact ⟨_, List.mem_singleton.2 rfl, g1, by rw [hp2] at g2; exact Rat.le_trans g2 q2⟩
            · exact ⟨_, List.mem_singleton.2 rfl, Rat.le_trans hp1 (Rat.le_trans q1 g1), g2⟩
        rw [Bool.or_eq_true, Bool.or_eq_true, a1]
        constructor
        · rintro (h | h | h)
          · exact .inl (.inl h)
          · exact .inl (.inr h)
          · exact .inr h
        · rintro ((h | h) | h)
          · exact .inl h
          · exact .inr (.inl h)
          · exact .inr (.inr h)
      · rw [if_neg hl]
        refine ⟨fun x => ?_, .inr ⟨ini ++ [p], (loQ w tol ((m : Int) - j), hiQ w tol ((m : Int) - j)), rfl, Rat.le_refl, rfl⟩⟩
        rw [step, ← h1 x, inS_append (ini ++ [p]), Bool.or_eq_true]
        have a1 : inS [(loQ w tol ((m : Int) - j), hiQ w tol ((m : Int) - j))] x = true ↔ (loQ w tol ((m : Int) - j) ≤ x ∧ x ≤ hiQ w tol ((m : Int) - j)) := by
          rw [inS_iff]
          constructor
          · rintro ⟨p', hp', g⟩
            rw [List.mem_singleton] at hp'
            subst hp'
            exact g
          · intro g; exact ⟨_, List.mem_singleton.2 rfl, g⟩
        rw [a1]
/-- What the spans hold: the units that fit. -/
theorem spansL_spec {w tol : Int} {m : Nat} (hw : 1 ≤ w) (ht : 0 ≤ tol) (x : Rat) : inS (spansL w tol m) x = true ↔ ∃ k : Nat, 1 ≤ k ∧ k ≤ m ∧ loQ w tol (k : Int) ≤ x ∧ x ≤ hiQ w tol (k : Int) := by
  rw [spansL, (spansTo_spec hw ht (Nat.le_refl m)).1 x]
  unfold fitQ
  constructor
  · rintro ⟨k, h1, h2⟩; exact ⟨k, by omega, h2⟩
  · rintro ⟨k, h1, h2⟩; exact ⟨k, by omega, h2⟩

/-- Every bound of the spans is one of the quotients. -/
def AllS (P : Rat → Prop) (ss : List (Rat × Rat)) : Prop := ∀ p ∈ ss, P p.1 ∧ P p.2
theorem AllS.append {P : Rat → Prop} {a b : List (Rat × Rat)} (h1 : AllS P a) (h2 : AllS P b) : AllS P (a ++ b) := fun p hp => (List.mem_append.1 hp).elim (h1 p) (h2 p)
theorem spStep_all {P : Rat → Prop} {out : List (Rat × Rat)} {lo hi : Rat} (h : AllS P out) (h1 : P lo) (h2 : P hi) : AllS P (spStep out lo hi) := by
  rcases List.eq_nil_or_concat out with rfl | ⟨ini, p, rfl⟩
  · intro p hp
    rw [spStep_nil, List.mem_singleton] at hp
    subst hp
    exact ⟨h1, h2⟩
  · rw [List.concat_eq_append] at h ⊢
    rw [spStep_snoc]
    have hp := h p (by simp)
    have hi' : AllS P ini := fun q hq => h q (by simp [hq])
    split
    · refine hi'.append fun q hq => ?_
      rw [List.mem_singleton] at hq
      subst hq
      exact ⟨hp.1, h2⟩
    · refine h.append fun q hq => ?_
      rw [List.mem_singleton] at hq
      subst hq
      exact ⟨h1, h2⟩
theorem spStep_length (out : List (Rat × Rat)) (lo hi : Rat) : (spStep out lo hi).length ≤ out.length + 1 := by
  rcases List.eq_nil_or_concat out with rfl | ⟨ini, p, rfl⟩
  · rw [spStep_nil]; simp
  · rw [List.concat_eq_append, spStep_snoc]
    split <;> simp
theorem spansTo_length (w tol : Int) (m : Nat) : ∀ j, (spansTo w tol m j).length ≤ j
  | 0 => Nat.le_refl _
  | j + 1 => by
    have h1 := spansTo_length w tol m j
    have h2 := spStep_length (spansTo w tol m j) (loQ w tol ((m : Int) - j)) (hiQ w tol ((m : Int) - j))
    show (spStep _ _ _).length ≤ _
    omega
theorem spansTo_all {P : Rat → Prop} {w tol : Int} {m : Nat} (h : ∀ k : Int, P (loQ w tol k) ∧ P (hiQ w tol k)) : ∀ j, AllS P (spansTo w tol m j)
  | 0 => fun p hp => by simp [spansTo] at hp
  | j + 1 => spStep_all (spansTo_all h j) (h _).1 (h _).2

/-- What two spans share. -/
def meet1 (x y : Rat × Rat) : List (Rat × Rat) :=
  if (if x.1 < y.1 then y.1 else x.1) ≤ (if y.2 < x.2 then y.2 else x.2) then [((if x.1 < y.1 then y.1 else x.1), (if y.2 < x.2 then y.2 else x.2))] else []
def meetR (x : Rat × Rat) (b : List (Rat × Rat)) : List (Rat × Rat) := b.flatMap (meet1 x)
def meetL (a b : List (Rat × Rat)) : List (Rat × Rat) := a.flatMap fun x => meetR x b
theorem meet1_in (x y : Rat × Rat) (z : Rat) : inS (meet1 x y) z = true ↔ (x.1 ≤ z ∧ z ≤ x.2) ∧ y.1 ≤ z ∧ z ≤ y.2 := by
  obtain ⟨a, b⟩ := x
  obtain ⟨c, d⟩ := y
  unfold meet1
  simp only
  by_cases h : (if a < c then c else a) ≤ (if d < b then d else b)
  · rw [if_pos h]
    simp only [inS, List.any_cons, List.any_nil, Bool.or_false, Bool.and_eq_true, decide_eq_true_eq]
    split <;> split <;> grind
  · rw [if_neg h]
    simp only [inS, List.any_nil, Bool.false_eq_true, false_iff]
    intro h2
    apply h
    split <;> split <;> grind
theorem inS_flat {α : Type} (l : List α) (f : α → List (Rat × Rat)) (z : Rat) : inS (l.flatMap f) z = true ↔ ∃ y ∈ l, inS (f y) z = true := by
  rw [inS_iff]
  constructor
  · rintro ⟨p, hp, h⟩
    obtain ⟨y, hy, hp⟩ := List.mem_flatMap.1 hp
    exact ⟨y, hy, inS_iff.2 ⟨p, hp, h⟩⟩
  · rintro ⟨y, hy, h⟩
    obtain ⟨p, hp, h⟩ := inS_iff.1 h
    exact ⟨p, List.mem_flatMap.2 ⟨y, hy, hp⟩, h⟩
/-- What the meet holds: what both hold. -/
theorem meetL_in (a b : List (Rat × Rat)) (z : Rat) : inS (meetL a b) z = (inS a z && inS b z) := by
  rw [Bool.eq_iff_iff, Bool.and_eq_true, meetL, inS_flat, inS_iff, inS_iff]
  constructor
  · rintro ⟨x, hx, h⟩
    obtain ⟨y, hy, h⟩ := (inS_flat _ _ _).1 h
    obtain ⟨h1, h2⟩ := (meet1_in x y z).1 h
    exact ⟨⟨x, hx, h1⟩, y, hy, h2⟩
  · rintro ⟨⟨x, hx, h1⟩, y, hy, h2⟩
    exact ⟨x, hx, (inS_flat _ _ _).2 ⟨y, hy, (meet1_in x y z).2 ⟨h1, h2⟩⟩⟩
theorem meet1_all {P : Rat → Prop} {x y : Rat × Rat} (hx : P x.1 ∧ P x.2) (hy : P y.1 ∧ P y.2) : AllS P (meet1 x y) := fun p hp => by
  have hlo : P (if x.1 < y.1 then y.1 else x.1) := by
    split
    · exact hy.1
    · exact hx.1
  have hhi : P (if y.2 < x.2 then y.2 else x.2) := by
    split
    · exact hy.2
    · exact hx.2
  unfold meet1 at hp
  generalize (if x.1 < y.1 then y.1 else x.1) = lo at *
  generalize (if y.2 < x.2 then y.2 else x.2) = hi at *
  split at hp
  · rw [List.mem_singleton] at hp
    subst hp
    exact ⟨hlo, hhi⟩
  · cases hp
theorem meetR_all {P : Rat → Prop} {x : Rat × Rat} {b : List (Rat × Rat)} (hx : P x.1 ∧ P x.2) (hb : AllS P b) : AllS P (meetR x b) := fun p hp => by
  obtain ⟨y, hy, hp⟩ := List.mem_flatMap.1 hp
  exact meet1_all hx (hb y hy) p hp
theorem meetL_all {P : Rat → Prop} {a b : List (Rat × Rat)} (ha : AllS P a) (hb : AllS P b) : AllS P (meetL a b) := fun p hp => by
  obtain ⟨x, hx, hp⟩ := List.mem_flatMap.1 hp
  exact meetR_all (ha x hx) hb p hp
theorem meet1_length (x y : Rat × Rat) : (meet1 x y).length ≤ 1 := by
  unfold meet1
  generalize (if x.1 < y.1 then y.1 else x.1) = lo
  generalize (if y.2 < x.2 then y.2 else x.2) = hi
  split <;> simp
theorem meetR_length (x : Rat × Rat) : ∀ b : List (Rat × Rat), (meetR x b).length ≤ b.length
  | [] => Nat.le_refl _
  | y :: b => by
    have h1 := meetR_length x b
    have h2 := meet1_length x y
    show ((y :: b).flatMap _).length ≤ _
    rw [List.flatMap_cons, List.length_append, List.length_cons]
    unfold meetR at h1
    omega
theorem meetL_length (b : List (Rat × Rat)) : ∀ a : List (Rat × Rat), (meetL a b).length ≤ a.length * b.length
  | [] => by simp [meetL]
  | x :: a => by
    have h1 := meetL_length b a
    have h2 := meetR_length x b
    show ((x :: a).flatMap _).length ≤ _
    rw [List.flatMap_cons, List.length_append, List.length_cons, Nat.succ_mul]
    unfold meetL at h1
    omega
theorem meetR_succ (x : Rat × Rat) (b : List (Rat × Rat)) {j : Nat} {y : Rat × Rat} (h : b[j]? = some y) : meetR x (b.take (j + 1)) = meetR x (b.take j) ++ meet1 x y := by
  unfold meetR
  rw [List.take_add_one, h, List.flatMap_append]
  simp
theorem meetL_succ (a b : List (Rat × Rat)) {i : Nat} {x : Rat × Rat} (h : a[i]? = some x) : meetL (a.take (i + 1)) b = meetL (a.take i) b ++ meetR x b := by
  unfold meetL
  rw [List.take_add_one, h, List.flatMap_append]
  simp

/-- The units that fit all weights. -/
def comTo (tol : Int) (m : Nat) (w : Int) (ws : List Int) : List (Rat × Rat) := ws.foldl (fun out v => meetL out (spansL v tol m)) (spansL w tol m)
theorem comTo_nil (tol : Int) (m : Nat) (w : Int) : comTo tol m w [] = spansL w tol m := rfl
theorem comTo_succ (tol : Int) (m : Nat) (w : Int) (ws : List Int) {k : Nat} {v : Int} (h : ws[k]? = some v) : comTo tol m w (ws.take (k + 1)) = meetL (comTo tol m w (ws.take k)) (spansL v tol m) := by
  unfold comTo
  rw [List.take_add_one, h, List.foldl_append]
  rfl
theorem comTo_in (tol : Int) (m : Nat) (x : Rat) : ∀ (ws : List Int) (o : List (Rat × Rat)), inS (ws.foldl (fun out v => meetL out (spansL v tol m)) o) x = (inS o x && ws.all fun v => inS (spansL v tol m) x)
  | [], o => by simp
  | v :: ws, o => by
    rw [List.foldl_cons, comTo_in tol m x ws, meetL_in, List.all_cons, Bool.and_assoc]
/-- A unit is common exactly if it fits each weight. -/
theorem com_in (tol : Int) (m : Nat) (x : Rat) (w : Int) (ws : List Int) : inS (comTo tol m w ws) x = (w :: ws).all fun v => inS (spansL v tol m) x := by
  unfold comTo
  rw [comTo_in, List.all_cons]
theorem comTo_all {P : Rat → Prop} {tol : Int} {m : Nat} (h : ∀ v : Int, AllS P (spansL v tol m)) (w : Int) : ∀ (ws : List Int) (o : List (Rat × Rat)), AllS P o → AllS P (ws.foldl (fun out v => meetL out (spansL v tol m)) o)
  | [], o, ho => ho
  | v :: ws, o, ho => comTo_all h w ws _ (meetL_all ho (h v))
theorem comTo_length {tol : Int} {m : Nat} : ∀ (ws : List Int) (o : List (Rat × Rat)), (ws.foldl (fun out v => meetL out (spansL v tol m)) o).length ≤ o.length * m ^ ws.length
  | [], o => by simp
  | v :: ws, o => by
    rw [List.foldl_cons]
    refine Nat.le_trans (comTo_length ws _) ?_
    have h1 := meetL_length (spansL v tol m) o
    have h2 : (spansL v tol m).length ≤ m := spansTo_length v tol m m
    rw [List.length_cons, Nat.pow_succ, Nat.mul_comm (m ^ ws.length) m, ← Nat.mul_assoc]
    exact Nat.mul_le_mul (Nat.le_trans h1 (Nat.mul_le_mul (Nat.le_refl _) h2)) (Nat.le_refl _)

/-- How many weights a unit fits. -/
def scoreN (tol : Int) (m : Nat) (u : Rat) (l : List Int) : Nat := l.countP fun w => inS (spansL w tol m) u
theorem score_succ (tol : Int) (m : Nat) (u : Rat) (l : List Int) {k : Nat} {v : Int} (h : l[k]? = some v) : scoreN tol m u (l.take (k + 1)) = scoreN tol m u (l.take k) + (if inS (spansL v tol m) u then 1 else 0) := by
  unfold scoreN
  rw [List.take_add_one, h, List.countP_append]
  simp [List.countP_cons]
theorem score_all (tol : Int) (m : Nat) (u : Rat) (l : List Int) : scoreN tol m u l = l.length ↔ (l.all fun w => inS (spansL w tol m) u) = true := by
  unfold scoreN
  rw [List.countP_eq_length, List.all_eq_true]

/-- The magnitude. -/
def absQ (x : Rat) : Rat := if x < 0 then -x else x
/-- What is left of a weight at a multiple. -/
def nxtQ (w : Int) (u : Rat) (j : Nat) : Rat := ((w : Int) : Rat) / ((1 : Int) : Rat) - (((j : Int) + 2 : Int) : Rat) / ((1 : Int) : Rat) * u
/-- What is left at the best of the first multiples. -/
def restTo (w : Int) (u : Rat) : Nat → Rat
  | 0 => ((w : Int) : Rat) / ((1 : Int) : Rat) - u
  | j + 1 => if absQ (nxtQ w u j) < absQ (restTo w u j) then nxtQ w u j else restTo w u j
theorem over_one (n : Int) : ((n : Int) : Rat) / ((1 : Int) : Rat) = (n : Rat) := by
  rw [Rat.div_def]
  have : ((1 : Int) : Rat)⁻¹ = 1 := by decide +kernel
  rw [this]
  exact Rat.mul_one _
theorem restTo_zero (w : Int) (u : Rat) : restTo w u 0 = (w : Rat) - ((1 : Nat) : Rat) * u := by
  show ((w : Int) : Rat) / ((1 : Int) : Rat) - u = _
  rw [over_one, show ((1 : Nat) : Rat) * u = u from Rat.one_mul u]
theorem nxtQ_eq (w : Int) (u : Rat) (j : Nat) : nxtQ w u j = (w : Rat) - ((j + 2 : Nat) : Rat) * u := by
  unfold nxtQ
  rw [over_one, over_one, show (((j : Int) + 2 : Int) : Rat) = ((j + 2 : Nat) : Rat) from by norm_cast]
theorem restTo_succ (w : Int) (u : Rat) (j : Nat) : restTo w u (j + 1) = if absQ (nxtQ w u j) < absQ (restTo w u j) then nxtQ w u j else restTo w u j := rfl
theorem restTo_le (w : Int) (u : Rat) : ∀ (j k : Nat), 1 ≤ k → k ≤ j + 1 → absQ (restTo w u j) ≤ absQ ((w : Rat) - (k : Rat) * u)
  | 0, k, h1, h2 => by
    obtain rfl : k = 1 := by omega
    rw [restTo_zero]
    exact Rat.le_refl
  | j + 1, k, h1, h2 => by
    rw [restTo_succ]
    by_cases hk : k ≤ j + 1
    · have ih := restTo_le w u j k h1 hk
      generalize absQ ((w : Rat) - (k : Rat) * u) = z at *
      generalize restTo w u j = r at *
      generalize nxtQ w u j = x at *
      split
      · grind
      · exact ih
    · obtain rfl : k = j + 2 := by omega
      rw [← nxtQ_eq]
      generalize restTo w u j = r at *
      generalize nxtQ w u j = x at *
      split
      · exact Rat.le_refl
      · grind
theorem restTo_is (w : Int) (u : Rat) : ∀ j : Nat, ∃ k : Nat, 1 ≤ k ∧ k ≤ j + 1 ∧ restTo w u j = (w : Rat) - (k : Rat) * u
  | 0 => ⟨1, Nat.le_refl _, Nat.le_refl _, restTo_zero w u⟩
  | j + 1 => by
    obtain ⟨k, h1, h2, h3⟩ := restTo_is w u j
    rw [restTo_succ]
    by_cases h : absQ (nxtQ w u j) < absQ (restTo w u j)
    · exact ⟨j + 2, by omega, by omega, by rw [if_pos h, nxtQ_eq]⟩
    · exact ⟨k, h1, by omega, by rw [if_neg h, h3]⟩
theorem absQ_le {x t : Rat} : absQ x ≤ t ↔ -t ≤ x ∧ x ≤ t := by unfold absQ; split <;> grind
theorem absQ_nonneg (x : Rat) : 0 ≤ absQ x := by unfold absQ; split <;> grind
/-- The greatest error. -/
def errTo (u : Rat) (m : Nat) (l : List Int) : Rat := l.foldl (fun g w => if g < absQ (restTo w u (m - 1)) then absQ (restTo w u (m - 1)) else g) 0
theorem err_nil (u : Rat) (m : Nat) : errTo u m [] = 0 := rfl
theorem err_succ (u : Rat) (m : Nat) (l : List Int) {k : Nat} {v : Int} (h : l[k]? = some v) : errTo u m (l.take (k + 1)) = if errTo u m (l.take k) < absQ (restTo v u (m - 1)) then absQ (restTo v u (m - 1)) else errTo u m (l.take k) := by
  unfold errTo
  rw [List.take_add_one, h, List.foldl_append]
  rfl
theorem err_le' (u : Rat) (m : Nat) (t : Rat) : ∀ (l : List Int) (g : Rat), (l.foldl (fun g w => if g < absQ (restTo w u (m - 1)) then absQ (restTo w u (m - 1)) else g) g) ≤ t ↔ g ≤ t ∧ ∀ w ∈ l, absQ (restTo w u (m - 1)) ≤ t
  | [], g => by simp
  | w :: l, g => by
    rw [List.foldl_cons, err_le' u m t l]
    constructor
    · rintro ⟨h1, h2⟩
      refine ⟨by split at h1 <;> grind, fun v hv => ?_⟩
      rcases List.mem_cons.1 hv with rfl | hv
      · split at h1 <;> grind
      · exact h2 v hv
    · rintro ⟨h1, h2⟩
      refine ⟨?_, fun v hv => h2 v (List.mem_cons_of_mem _ hv)⟩
      split
      · exact h2 w (List.mem_cons_self ..)
      · exact h1
theorem err_le {u : Rat} {m : Nat} {t : Rat} (ht : 0 ≤ t) (l : List Int) : errTo u m l ≤ t ↔ ∀ w ∈ l, absQ (restTo w u (m - 1)) ≤ t := by
  unfold errTo
  rw [err_le']
  exact ⟨fun h => h.2, fun h => ⟨ht, h⟩⟩
/-- A unit of one or more fits exactly if its nearest multiple is within the tolerance. -/
theorem fits_rest {w tol : Int} {m : Nat} {u : Rat} (hw : 1 ≤ w) (ht : 0 ≤ tol) (hm : 1 ≤ m) (hu : 1 ≤ u) : inS (spansL w tol m) u = true ↔ absQ (restTo w u (m - 1)) ≤ (tol : Rat) := by
  rw [spansL_spec hw ht]
  have key : ∀ k : Nat, 1 ≤ k → ((loQ w tol (k : Int) ≤ u ∧ u ≤ hiQ w tol (k : Int)) ↔ absQ ((w : Rat) - (k : Rat) * u) ≤ (tol : Rat)) := fun k hk => by
    have hk0 : (0 : Rat) < ((k : Int) : Rat) := by exact_mod_cast (show (0 : Int) < (k : Int) by omega)
    have hk1 : (1 : Rat) ≤ ((k : Int) : Rat) := by exact_mod_cast (show (1 : Int) ≤ (k : Int) by omega)
    have ek : ((k : Int) : Rat) = (k : Rat) := Rat.intCast_natCast k
    unfold loQ hiQ
    rw [rdiv_le hk0, le_rdiv hk0, absQ_le, ek]
    rw [ek] at hk0 hk1
    have hku : 1 ≤ u * (k : Rat) := by
      have h1 : (1 : Rat) * 1 ≤ u * (k : Rat) := by
        have h2 : (1 : Rat) * 1 ≤ u * 1 := Rat.mul_le_mul_of_nonneg_right hu (by decide)
        have h3 : u * 1 ≤ u * (k : Rat) := Rat.mul_le_mul_of_nonneg_left hk1 (by grind)
        exact Rat.le_trans h2 h3
      simpa using h1
    have emax : ((max (w - tol) 1 : Int) : Rat) ≤ u * (k : Rat) ↔ (w : Rat) - (tol : Rat) ≤ u * (k : Rat) := by
      constructor
      · intro h
        have h2 : ((w - tol : Int) : Rat) ≤ ((max (w - tol) 1 : Int) : Rat) := by exact_mod_cast (show w - tol ≤ max (w - tol) 1 by omega)
        rw [Rat.intCast_sub] at h2
        exact Rat.le_trans h2 h
      · intro h
        by_cases hc : 1 ≤ w - tol
        · rw [show max (w - tol) 1 = w - tol from by omega, Rat.intCast_sub]; exact h
        · rw [show max (w - tol) 1 = 1 from by omega]; exact hku
    rw [emax, Rat.intCast_add]
    constructor
    · rintro ⟨h1, h2⟩; constructor <;> grind
    · rintro ⟨h1, h2⟩; constructor <;> grind
  constructor
  · rintro ⟨k, h1, h2, h3⟩
    exact Rat.le_trans (restTo_le w u (m - 1) k h1 (by omega)) ((key k h1).1 h3)
  · intro h
    obtain ⟨k, h1, h2, h3⟩ := restTo_is w u (m - 1)
    rw [h3] at h
    exact ⟨k, h1, by omega, (key k h1).2 h⟩

end Go.Proofs.YtbplkienkhinmaaGreatDoor
