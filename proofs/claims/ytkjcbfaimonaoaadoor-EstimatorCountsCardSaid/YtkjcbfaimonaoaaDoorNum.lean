/- Plain laws on limbs: lists of digits to the base 10^9, least first. No program is named here. -/
set_option linter.unusedVariables false
set_option linter.unusedSimpArgs false
namespace Go.Proofs.YtkjcbfaimonaoaaDoor.Num

/-- Without the leading zeros (which stand last). -/
def trimL (l : List Nat) : List Nat := (l.reverse.dropWhile (· == 0)).reverse

theorem trimL_snoc_zero (l : List Nat) : trimL (l ++ [0]) = trimL l := by simp [trimL]
theorem trimL_snoc_pos (l : List Nat) (x : Nat) (h : x ≠ 0) : trimL (l ++ [x]) = l ++ [x] := by simp [trimL, h]
theorem trimL_nil : trimL [] = [] := rfl

/-- The value of a list of limbs, whatever their size. -/
def val : List Nat → Nat
  | [] => 0
  | x :: l => x + 1000000000 * val l

theorem val_append (a b : List Nat) : val (a ++ b) = val a + 1000000000 ^ a.length * val b := by
  induction a with
  | nil => simp [val]
  | cons x a ih =>
    simp only [List.cons_append, val, ih, List.length_cons, Nat.pow_succ, Nat.mul_add]
    rw [Nat.mul_right_comm, Nat.mul_comm (1000000000 ^ a.length * val b)]
    simp only [Nat.add_assoc]

theorem val_snoc (a : List Nat) (x : Nat) : val (a ++ [x]) = val a + 1000000000 ^ a.length * x := by simp [val_append, val]

def Digs (l : List Nat) : Prop := ∀ x ∈ l, x < 1000000000

theorem Digs.nil : Digs [] := by intro x h; cases h
theorem Digs.append {a b : List Nat} (ha : Digs a) (hb : Digs b) : Digs (a ++ b) := by
  intro x h; rcases List.mem_append.1 h with h | h
  · exact ha x h
  · exact hb x h
theorem Digs.snoc {a : List Nat} {x : Nat} (ha : Digs a) (hx : x < 1000000000) : Digs (a ++ [x]) := ha.append (by intro y h; simp at h; omega)
theorem Digs.left {a b : List Nat} (h : Digs (a ++ b)) : Digs a := fun x hx => h x (List.mem_append.2 (.inl hx))
theorem Digs.right {a b : List Nat} (h : Digs (a ++ b)) : Digs b := fun x hx => h x (List.mem_append.2 (.inr hx))
theorem Digs.take {a : List Nat} (h : Digs a) (k : Nat) : Digs (a.take k) := fun x hx => h x (List.mem_of_mem_take hx)
theorem Digs.drop {a : List Nat} (h : Digs a) (k : Nat) : Digs (a.drop k) := fun x hx => h x (List.mem_of_mem_drop hx)
theorem Digs.get {a : List Nat} (h : Digs a) {k : Nat} (hk : k < a.length) : a[k] < 1000000000 := h _ (List.getElem_mem hk)
theorem Digs.getD {a : List Nat} (h : Digs a) (k : Nat) : a.getD k 0 < 1000000000 := by
  by_cases hk : k < a.length
  · rw [List.getD_eq_getElem?_getD, List.getElem?_eq_getElem hk]; exact h.get hk
  · rw [List.getD_eq_getElem?_getD, List.getElem?_eq_none (by omega)]; decide

theorem val_lt {l : List Nat} (h : Digs l) : val l < 1000000000 ^ l.length := by
  induction l with
  | nil => simp [val]
  | cons x l ih =>
    have h1 := ih (fun y hy => h y (List.mem_cons_of_mem _ hy))
    have h2 := h x (List.mem_cons_self)
    simp only [val, List.length_cons, Nat.pow_succ]
    omega

/-- No leading zero. -/
def Top (l : List Nat) : Prop := l.getLast? ≠ some 0

theorem Top.nil : Top [] := by simp [Top]
theorem Top.snoc {l : List Nat} {x : Nat} (h : x ≠ 0) : Top (l ++ [x]) := by simp [Top, h]
theorem Top.cons {l : List Nat} {x : Nat} (h : Top (x :: l)) : Top l := by
  cases l with
  | nil => exact Top.nil
  | cons y l => simpa [Top, List.getLast?_cons_cons] using h

theorem trimL_top (l : List Nat) : Top (trimL l) := by
  intro h
  simp only [trimL, List.getLast?_reverse] at h
  have := List.head?_dropWhile_not (fun x : Nat => x == 0) l.reverse
  rw [h] at this
  simp at this

theorem val_zeros (n : Nat) : val (List.replicate n 0) = 0 := by
  induction n with
  | zero => rfl
  | succ n ih => simp [List.replicate_succ, val, ih]

theorem trimL_split (l : List Nat) : ∃ n, l = trimL l ++ List.replicate n 0 := by
  have h1 := List.takeWhile_append_dropWhile (p := fun x : Nat => x == 0) (l := l.reverse)
  have h2 : ∀ x ∈ l.reverse.takeWhile (fun x : Nat => x == 0), x = 0 := by
    intro x hx
    have := List.all_takeWhile (p := fun x : Nat => x == 0) (l := l.reverse)
    rw [List.all_eq_true] at this
    simpa using this x hx
  refine ⟨(l.reverse.takeWhile (fun x : Nat => x == 0)).length, ?_⟩
  have h3 : l.reverse.takeWhile (fun x : Nat => x == 0) = List.replicate (l.reverse.takeWhile (fun x : Nat => x == 0)).length 0 := List.eq_replicate_of_mem h2
  have h4 : l = (l.reverse.takeWhile (fun x : Nat => x == 0) ++ l.reverse.dropWhile (fun x : Nat => x == 0)).reverse := by rw [h1, List.reverse_reverse]
  rw [List.reverse_append] at h4
  rw [h3, List.reverse_replicate] at h4
  exact h4

theorem val_trimL (l : List Nat) : val (trimL l) = val l := by
  obtain ⟨n, h⟩ := trimL_split l
  have key : ∀ t, l = t ++ List.replicate n 0 → val t = val l := by
    rintro t rfl; rw [val_append, val_zeros, Nat.mul_zero, Nat.add_zero]
  exact key _ h

theorem trimL_prefix (l : List Nat) : trimL l = l.take (trimL l).length := by
  obtain ⟨n, h⟩ := trimL_split l
  have key : ∀ t, l = t ++ List.replicate n 0 → t = l.take t.length := by
    rintro t rfl; simp
  exact key _ h

theorem trimL_length_le (l : List Nat) : (trimL l).length ≤ l.length := by
  obtain ⟨n, h⟩ := trimL_split l
  have key : ∀ t, l = t ++ List.replicate n 0 → t.length ≤ l.length := by
    rintro t rfl; simp
  exact key _ h

theorem Digs.trimL {l : List Nat} (h : Digs l) : Digs (trimL l) := by
  rw [trimL_prefix]; exact h.take _

/-- The limbs of a number. -/
def limbsOf (n : Nat) : List Nat := if h : n = 0 then [] else (n % 1000000000) :: limbsOf (n / 1000000000)
termination_by n
decreasing_by omega

theorem limbsOf_zero : limbsOf 0 = [] := by rw [limbsOf]; simp
theorem limbsOf_pos {n : Nat} (h : n ≠ 0) : limbsOf n = (n % 1000000000) :: limbsOf (n / 1000000000) := by
  rw [limbsOf]; simp [h]

theorem val_limbsOf (n : Nat) : val (limbsOf n) = n := by
  induction n using Nat.strongRecOn with
  | _ n ih =>
    by_cases h : n = 0
    · subst h; simp [limbsOf_zero, val]
    · rw [limbsOf_pos h, val, ih _ (by omega)]; omega

theorem limbsOf_digs (n : Nat) : Digs (limbsOf n) := by
  induction n using Nat.strongRecOn with
  | _ n ih =>
    by_cases h : n = 0
    · subst h; rw [limbsOf_zero]; exact Digs.nil
    · rw [limbsOf_pos h]
      intro x hx
      rcases List.mem_cons.1 hx with rfl | hx
      · omega
      · exact ih _ (by omega) x hx

theorem val_pos {l : List Nat} (h : Top l) (hne : l ≠ []) : 0 < val l := by
  induction l with
  | nil => exact absurd rfl hne
  | cons x l ih =>
    cases l with
    | nil => simp [Top] at h; simp [val]; omega
    | cons y l => have := ih h.cons (by simp); simp only [val] at *; omega

theorem canon {l : List Nat} (hd : Digs l) (ht : Top l) : l = limbsOf (val l) := by
  induction l with
  | nil => simp [val, limbsOf_zero]
  | cons x l ih =>
    have hx := hd x List.mem_cons_self
    have h1 := ih (fun y hy => hd y (List.mem_cons_of_mem _ hy)) ht.cons
    have h2 := val_pos ht (by simp)
    rw [limbsOf_pos (by omega)]
    have e1 : val (x :: l) % 1000000000 = x := by simp only [val]; omega
    have e2 : val (x :: l) / 1000000000 = val l := by simp only [val]; omega
    rw [e1, e2, ← h1]

theorem trimL_canon {l : List Nat} (hd : Digs l) : trimL l = limbsOf (val l) := by
  rw [← val_trimL l]; exact canon hd.trimL (trimL_top l)

theorem limbsOf_top (n : Nat) : Top (limbsOf n) := by
  have h : trimL (limbsOf n) = limbsOf n := by rw [trimL_canon (limbsOf_digs n), val_limbsOf]
  rw [← h]; exact trimL_top _

theorem limbsOf_nil_iff (n : Nat) : limbsOf n = [] ↔ n = 0 := by
  constructor
  · intro h; have := val_limbsOf n; rw [h] at this; simpa [val] using this.symm
  · intro h; subst h; exact limbsOf_zero

theorem limbsOf_lt (n : Nat) : n < 1000000000 ^ (limbsOf n).length := by
  have := val_lt (limbsOf_digs n); rwa [val_limbsOf] at this

theorem limbsOf_ge {n : Nat} (h : n ≠ 0) : 1000000000 ^ ((limbsOf n).length - 1) ≤ n := by
  induction n using Nat.strongRecOn with
  | _ n ih =>
    rw [limbsOf_pos h]
    by_cases hq : n / 1000000000 = 0
    · rw [hq, limbsOf_zero]; simp; omega
    · have := ih _ (by omega) hq
      have hl : (limbsOf (n / 1000000000)).length ≠ 0 := by
        intro e; exact hq ((limbsOf_nil_iff _).1 (List.eq_nil_of_length_eq_zero e))
      obtain ⟨m, hm⟩ : ∃ m, (limbsOf (n / 1000000000)).length = m + 1 := ⟨_, (Nat.succ_pred hl).symm⟩
      simp only [List.length_cons, hm, Nat.add_sub_cancel] at this ⊢
      rw [Nat.pow_succ]
      omega

theorem limbsOf_length_le {n k : Nat} (h : n < 1000000000 ^ k) : (limbsOf n).length ≤ k := by
  by_cases h0 : n = 0
  · subst h0; simp [limbsOf_zero]
  · have h1 := limbsOf_ge h0
    have h2 : 1000000000 ^ ((limbsOf n).length - 1) < 1000000000 ^ k := by omega
    have := (Nat.pow_lt_pow_iff_right (by omega : 1 < 1000000000)).1 h2
    omega

theorem val_le_of_length {a b : List Nat} (ha : Digs a) (hb : Top b) (h : a.length < b.length) : val a < val b := by
  have h1 := val_lt ha
  rcases List.eq_nil_or_concat b with rfl | ⟨b', x, rfl⟩
  · simp at h
  · have hx : x ≠ 0 := by simpa [Top] using hb
    rw [List.concat_eq_append, val_snoc]
    have h2 : 1000000000 ^ a.length ≤ 1000000000 ^ b'.length := Nat.pow_le_pow_right (by omega) (by simpa using Nat.le_of_lt_succ (by simpa using h))
    have h3 : 1000000000 ^ b'.length ≤ 1000000000 ^ b'.length * x := Nat.le_mul_of_pos_right _ (by omega)
    omega

theorem limbsOf_length_mono {a b : Nat} (h : a ≤ b) : (limbsOf a).length ≤ (limbsOf b).length :=
  limbsOf_length_le (Nat.lt_of_le_of_lt h (limbsOf_lt b))

theorem limbsOf_length_mul (a b : Nat) : (limbsOf (a * b)).length ≤ (limbsOf a).length + (limbsOf b).length := by
  refine limbsOf_length_le ?_
  rw [Nat.pow_add]
  have h1 := limbsOf_lt a
  have h2 := limbsOf_lt b
  exact Nat.lt_of_le_of_lt (Nat.mul_le_mul_left a (Nat.le_of_lt h2)) (Nat.mul_lt_mul_of_pos_right h1 (by omega))
theorem limbsOf_length_add (a b : Nat) : (limbsOf (a + b)).length ≤ (limbsOf a).length + (limbsOf b).length + 1 := by
  refine limbsOf_length_le ?_
  have h1 := limbsOf_lt a
  have h2 := limbsOf_lt b
  have h3 : 1000000000 ^ (limbsOf a).length ≤ 1000000000 ^ ((limbsOf a).length + (limbsOf b).length) := Nat.pow_le_pow_right (by omega) (by omega)
  have h4 : 1000000000 ^ (limbsOf b).length ≤ 1000000000 ^ ((limbsOf a).length + (limbsOf b).length) := Nat.pow_le_pow_right (by omega) (by omega)
  rw [Nat.pow_succ]
  omega

/-- How long the limbs of a number are. -/
theorem len_of_le_pow {x b n : Nat} (h : x ≤ b ^ n) (hb : b < 1000000000) : (limbsOf x).length ≤ n + 1 := by
  refine limbsOf_length_le (Nat.lt_of_le_of_lt h ?_)
  rw [Nat.pow_succ]
  have h1 : b ^ n ≤ 1000000000 ^ n := Nat.pow_le_pow_left (by omega) n
  have h2 : 0 < 1000000000 ^ n := Nat.pow_pos (by omega)
  omega
theorem len_small {x : Nat} (h : x < 1000000000) : (limbsOf x).length ≤ 1 := limbsOf_length_le (by simpa using h)

end Go.Proofs.YtkjcbfaimonaoaaDoor.Num
