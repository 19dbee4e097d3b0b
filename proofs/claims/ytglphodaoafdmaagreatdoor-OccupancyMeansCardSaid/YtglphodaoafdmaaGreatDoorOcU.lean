/- occupancy: share, AtMost, AtLeast. -/
import Derived.Test.YtglphodaoafdmaaGreatDoorOcT
set_option linter.unusedVariables false
set_option linter.unusedSimpArgs false
set_option maxRecDepth 100000
namespace Go.Proofs.YtglphodaoafdmaaGreatDoor
open Go.RowKit Num

theorem sum_take_succ (ns : List Nat) (k : Nat) {m : Nat} (h : ns[k]? = some m) : (ns.take (k + 1)).sum = (ns.take k).sum + m := by
  rw [List.take_add_one, h, List.sum_append]
  simp
theorem lsum_len {ns : List Nat} {L : Nat} (h : ∀ m ∈ ns, (limbsOf m).length ≤ L) : (limbsOf ns.sum).length ≤ (L + 1) * ns.length := by
  induction ns with
  | nil => show (limbsOf 0).length ≤ _; rw [limbsOf_zero]; exact Nat.zero_le _
  | cons m l ih =>
    have h1 := limbsOf_length_add m l.sum
    have h2 := h m (List.mem_cons_self ..)
    have h3 := ih fun x hx => h x (List.mem_cons_of_mem _ hx)
    rw [List.sum_cons, List.length_cons, Nat.mul_succ]
    omega
theorem sum_len_take {ns : List Nat} {L : Nat} (h : ∀ m ∈ ns, (limbsOf m).length ≤ L) (k : Nat) : (limbsOf (ns.take k).sum).length ≤ (L + 1) * ns.length :=
  Nat.le_trans (lsum_len fun m hm => h m (List.mem_of_mem_take hm)) (Nat.mul_le_mul_left _ (List.length_take_le' _ _))
theorem sum_upto (f : Nat → Nat) (n k : Nat) (h : k ≤ n) : ((upto_ f n).take k).sum = sumTo f k := by
  unfold upto_
  rw [← List.map_take, List.take_range, Nat.min_eq_left h]
  clear h
  induction k with
  | zero => rfl
  | succ k ih => rw [List.range_succ, List.map_append, List.sum_append, ih, sumTo_succ]; simp
theorem sum_upto_drop (f : Nat → Nat) (n k : Nat) (h : k ≤ n) : ((upto_ f n).drop k).sum + sumTo f k = sumTo f n := by
  have h2 := sum_upto f n n (Nat.le_refl _)
  rw [List.take_of_length_le (by rw [upto_length]; exact Nat.le_refl _)] at h2
  rw [← sum_upto f n k h, ← h2, Nat.add_comm, ← List.sum_append, List.take_append_drop]
theorem NatsV.take_ {B : Nat} {w : World} {A : Option Addr} {n c k : Nat} {ns : List Nat} (h : NatsV B w (.slice A n c) ns) (hk : k ≤ n) : NatsV B w (.slice A k c) (ns.take k) := by
  obtain ⟨A', cap, us, e, h2, h3, h4, h5⟩ := h
  injection e with e1 e2 e3
  subst e1 e2 e3
  have hl : (ns.take k).length = k := by rw [List.length_take]; omega
  refine ⟨_, _, us.take k, by rw [hl], by omega, h3, by rw [hl]; exact h4.take_ hk, fun j u m hu hm => ?_⟩
  rw [List.getElem?_take] at hu hm
  split at hu
  · rename_i hj
    rw [if_pos hj] at hm
    exact h5 j u m hu hm
  · cases hu
theorem NatsV.drop_ {B : Nat} {w : World} {A : Option Addr} {n c k : Nat} {ns : List Nat} (h : NatsV B w (.slice A n c) ns) (hk : k ≤ n) : NatsV B w (.slice (if c = k then A else A.map (·.add k)) (n - k) (c - k)) (ns.drop k) := by
  obtain ⟨A', cap, us, e, h2, h3, h4, h5⟩ := h
  injection e with e1 e2 e3
  subst e1 e2 e3
  have hl : (ns.drop k).length = ns.length - k := List.length_drop ..
  have hu0 := h4.1
  refine ⟨_, _, us.drop k, by rw [hl], by omega, by omega, ⟨by rw [List.length_drop]; omega, fun hn => ?_⟩, fun j u m hu hm => ?_⟩
  · obtain ⟨ad, rfl, hb, hc⟩ := h4.2 (by omega)
    rw [if_neg (by omega)]
    refine ⟨ad.add k, rfl, by rw [block_of_add]; exact hb, fun j u hu => ?_⟩
    rw [add_of_add]
    exact hc _ u (by rw [← hu, List.getElem?_drop])
  · rw [List.getElem?_drop] at hu hm
    exact h5 _ u m hu hm

end Go.Proofs.YtglphodaoafdmaaGreatDoor
