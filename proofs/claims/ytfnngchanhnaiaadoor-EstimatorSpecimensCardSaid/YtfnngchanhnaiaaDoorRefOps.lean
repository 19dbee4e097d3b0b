/- ref01: Norm, Of. ref01: Of, Cmp, Add, Sub, Mul. -/
import Derived.Test.YtfnngchanhnaiaaDoorNatural
import Derived.Test.YtfnngchanhnaiaaDoorMem
set_option linter.unusedVariables false
set_option linter.unusedSimpArgs false
set_option maxRecDepth 100000
namespace Go.Proofs.YtfnngchanhnaiaaDoor
open Go.RowKit Num

/-- A box of one cell and a box for the answer. -/
structure Box1 (w W0 : World) (x : Value) : Prop where
  ext : Ext w W0
  size : W0.heap.size = w.heap.size + 1 + 1
  rd : ∀ w', Below (w.heap.size + 1) W0 w' → w'.cell? ⟨w.heap.size, 0, none⟩ = some x
  zc : ∀ w', Ext W0 w' → w'.cell? ⟨w.heap.size + 1, 0, none⟩ = some (.slice none 0 0) ∧ w'.frozen? ⟨w.heap.size + 1, 0, none⟩ = false

theorem box1 (w : World) (x : Value) (t : TypeId) : Box1 w ((w.alloc (.cells #[x] t)).alloc (.cells #[.slice none 0 0] t)) x := by
  refine ⟨((Below.refl _ _).alloc (Nat.le_refl _) _).alloc (by simp) _, by simp, ?_, ?_⟩ <;> intro w' h
  · rw [h.cell (by simp)]; simp [go_sem, World.cell?_alloc_old]
  · constructor
    · rw [h.cell (by simp)]; simp [go_sem]
    · rw [h.frozen (by simp)]; simp [go_sem]

/-- What 'Norm' has done behind k rounds. -/
structure NormAt (xs : List Nat) (k : Nat) (ys : List Nat) (c : Nat) : Prop where
  len : ys.length = k
  digs : Digs ys
  small : c ≤ 8
  eq : val ys + 1000000000 ^ k * c = val (xs.take k)
  few : k ≤ xs.length + 1
  last : xs.length < k → c = 0

theorem NormAt.start (xs : List Nat) : NormAt xs 0 [] 0 := ⟨rfl, Digs.nil, by omega, by simp [val], by omega, fun _ => rfl⟩
theorem NormAt.step {xs ys : List Nat} {k c : Nat} (h : NormAt xs k ys c) (hx : xs.getD k 0 < 4294967296) (hk : k < xs.length ∨ 0 < c) :
    NormAt xs (k + 1) (ys ++ [(c + xs.getD k 0) % 1000000000]) ((c + xs.getD k 0) / 1000000000) := by
  obtain ⟨h1, h2, h3, h4, h5, h6⟩ := h
  have hk' : k ≤ xs.length := by
    rcases Nat.lt_or_ge xs.length k with h | h
    · have := h6 h; omega
    · exact h
  refine ⟨by simp [h1], h2.snoc (by omega), by omega, ?_, by omega, ?_⟩
  · rw [getD_take_succ, val_snoc, ← h4, h1, Nat.pow_succ, Nat.add_assoc, Nat.add_assoc, Nat.mul_assoc, ← Nat.mul_add, ← Nat.mul_add]
    congr 2
    omega
  · intro h
    have : xs.getD k 0 = 0 := by simp [List.getD, List.getElem?_eq_none (show xs.length ≤ k by omega)]
    rw [this]
    omega
theorem NormAt.done {xs ys : List Nat} {k : Nat} (h : NormAt xs k ys 0) (hk : xs.length ≤ k) : val ys = val xs := by
  have := h.eq
  rw [List.take_of_length_le hk] at this
  omega

theorem own_slice {w : World} {base : Nat} {e : TypeId} {v : Value} {n : Nat} {xs : List Value} (h : w.ownsRow base e 1 v n xs) :
    ∃ A c, v = .slice A n c ∧ n ≤ c ∧ c ≤ 9223372036854775807 := by
  rcases h.2 with ⟨rfl, rfl⟩ | ⟨g, cap, cur, rfl, _, _, hc, hm, _, _⟩
  · exact ⟨none, 0, rfl, Nat.le_refl _, by omega⟩
  · exact ⟨_, cap, rfl, hc, hm⟩

theorem own_cap {w : World} {base : Nat} {e : TypeId} {A : Option Addr} {n c : Nat} {xs : List Value} (h : w.ownsRow base e 1 (.slice A n c) n xs) : n ≤ c ∧ c ≤ 9223372036854775807 := by
  obtain ⟨_, _, e, h1, h2⟩ := own_slice h
  injection e with _ _ e
  subst e
  exact ⟨h1, h2⟩

end Go.Proofs.YtfnngchanhnaiaaDoor
namespace Go.Proofs.YtfnngchanhnaiaaDoor
open Go.RowKit Num

theorem GivesN.form {w : World} {n : Nat} {e : Ending} {w' : World} (h : GivesN w n e w') : ∃ A c, e = .returned (.agg #[.slice A (limbsOf n).length c]) ∧ CanV w' (.slice A (limbsOf n).length c) n ∧ Ext w w' ∧ New w.heap.size (.slice A (limbsOf n).length c) := by
  obtain ⟨A, k, c, rfl, h1, h2, h3⟩ := h
  obtain ⟨A', c', e, _, _, _⟩ := id h1
  injection e with e1 e2 e3
  subst e2
  exact ⟨A, c, rfl, h1, h2, h3⟩

end Go.Proofs.YtfnngchanhnaiaaDoor
