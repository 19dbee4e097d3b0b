/- ref01: Add, Sub, Mul. ref01: Mul. ref01: DivMod, the small cases. -/
import Derived.Test.YtfnngchanhnaiaaDoorRefOps
set_option linter.unusedVariables false
set_option linter.unusedSimpArgs false
set_option maxRecDepth 100000
namespace Go.Proofs.YtfnngchanhnaiaaDoor
open Go.RowKit Num

/-- What 'Add' has done behind k rounds. -/
structure AddAt (xs ys : List Nat) (k : Nat) (zs : List Nat) : Prop where
  len : zs.length = k
  small : ∀ z ∈ zs, z < 4294967296
  eq : val zs = val (xs.take k) + val (ys.take k)
theorem AddAt.start (xs ys : List Nat) : AddAt xs ys 0 [] := ⟨rfl, by simp, by simp [val]⟩
theorem AddAt.step {xs ys zs : List Nat} {k : Nat} (h : AddAt xs ys k zs) (hx : Digs xs) (hy : Digs ys) : AddAt xs ys (k + 1) (zs ++ [xs.getD k 0 + ys.getD k 0]) := by
  obtain ⟨h1, h2, h3⟩ := h
  have h5 := hx.getD k
  have h6 := hy.getD k
  refine ⟨by simp [h1], ?_, ?_⟩
  · intro z hz
    rcases List.mem_append.1 hz with hz | hz
    · exact h2 z hz
    · rw [List.mem_singleton] at hz; omega
  · rw [getD_take_succ, getD_take_succ, val_snoc, h1, h3, Nat.mul_add]; omega
theorem AddAt.done {xs ys zs : List Nat} {k : Nat} (h : AddAt xs ys k zs) (h1 : xs.length ≤ k) (h2 : ys.length ≤ k) : val zs = val xs + val ys := by
  rw [h.eq, List.take_of_length_le h1, List.take_of_length_le h2]

end Go.Proofs.YtfnngchanhnaiaaDoor
namespace Go.Proofs.YtfnngchanhnaiaaDoor
open Go.RowKit Num

/-- The rows of 'Mul' behind i rounds. -/
structure MulAt (xs ys : List Nat) (i : Nat) (os : List Nat) : Prop where
  len : os.length = xs.length + ys.length + 1
  digs : Digs os
  eq : val os = val (xs.take i) * val ys
  zero : ∀ p, i + ys.length ≤ p → os.getD p 0 = 0

theorem MulAt.start (xs ys : List Nat) : MulAt xs ys 0 (List.replicate (xs.length + ys.length + 1) 0) :=
  ⟨by simp, fun x hx => by simp at hx; omega, by simp [val, val_zeros], fun p _ => by simp [List.getD, List.getElem?_replicate]; split <;> rfl⟩

theorem MulAt.row {xs ys os : List Nat} {i x : Nat} (h : MulAt xs ys i os) : RowAt x ys os i 0 os 0 :=
  ⟨rfl, h.digs, by omega, by simp [val], fun _ _ => rfl⟩

theorem ext_getD {a b : List Nat} (hl : a.length = b.length) (h : ∀ p, a.getD p 0 = b.getD p 0) : a = b := by
  apply List.ext_getElem hl
  intro n h1 h2
  have := h n
  simpa [List.getD, h1, h2] using this

theorem MulAt.done {xs ys os qs : List Nat} {i j : Nat} (ht : MulAt xs ys i os) (h : RowAt (xs.getD i 0) ys os i j qs 0) (hj1 : ys.length ≤ j) (hj2 : j ≤ ys.length + 1) (hi : i < xs.length) : MulAt xs ys (i + 1) qs := by
  obtain ⟨h1, h2, h3, h4, h5⟩ := h
  obtain ⟨t1, t2, t3, t4⟩ := ht
  refine ⟨by rw [h1, t1], h2, ?_, ?_⟩
  · have e1 := val_take_drop qs (i + j) (by omega)
    have e2 := val_take_drop os (i + j) (by omega)
    have e3 : qs.drop (i + j) = os.drop (i + j) := by
      apply ext_getD (by simp [h1])
      intro p
      have := h5 (i + j + p) (by omega)
      simpa [List.getD, List.getElem?_drop] using this
    rw [e3] at e1
    rw [List.take_of_length_le hj1] at h4
    rw [getD_take_succ, Nat.add_mul, ← t3, Nat.mul_assoc]
    omega
  · intro p hp
    rw [h5 p (by omega)]
    exact t4 p (by omega)

theorem MulAt.fin {xs ys os : List Nat} (h : MulAt xs ys xs.length os) : val os = val xs * val ys := by
  rw [h.eq, List.take_length]

theorem RowAt.end_ {x : Nat} {xs ys os qs : List Nat} {i j c : Nat} (ht : MulAt xs ys i os) (h : RowAt x ys os i j qs c) (hy : Digs ys) (hj : ys.length < j) (hc : j = ys.length + 1 → c = 0) : True := trivial

end Go.Proofs.YtfnngchanhnaiaaDoor
namespace Go.Proofs.YtfnngchanhnaiaaDoor
open Go.RowKit Num

end Go.Proofs.YtfnngchanhnaiaaDoor
