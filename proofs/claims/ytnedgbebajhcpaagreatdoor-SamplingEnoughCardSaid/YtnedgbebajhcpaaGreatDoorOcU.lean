/- A list of Naturals that is written element by element. occupancy: ways, share. occupancy: share, AtMost, AtLeast. -/
import Derived.Test.YtnedgbebajhcpaaGreatDoorCntP
import Derived.Test.YtnedgbebajhcpaaGreatDoorOcB
import Derived.Test.YtnedgbebajhcpaaGreatDoorHold
set_option linter.unusedVariables false
set_option linter.unusedSimpArgs false
set_option maxRecDepth 100000
namespace Go.Proofs.YtnedgbebajhcpaaGreatDoor
open Go.RowKit Num

section
variable {e : TypeId} {base B g n cap j : Nat} {w : World} {v u : Value} {us : List Value} {ns : List Nat} {m : Nat}
theorem CanV.setOwn {x y : Value} (hu : CanV w x m) (hf : Far x v) (hv : v.ownBlock = some g) : CanV (w.setCell ⟨g, j, none⟩ y) x m := U32s.setFar hu (fun A n c e => hf A n c g e hv) y
theorem OwnN.stored (h : OwnN e base B w (.slice (some ⟨g, 0, none⟩) n cap) us ns) (hn : ns.length = n) (hj : j < n) (hu : CanV w u m) (hf : Far u (.slice (some ⟨g, 0, none⟩) n cap)) (hB : New B u) :
    OwnN e base B (w.setCell ⟨g, j, none⟩ u) (.slice (some ⟨g, 0, none⟩) n cap) (us.set j u) (ns.set j m) := by
  subst hn
  have hl : us.length = ns.length := by have := h.1.1; omega
  refine ⟨by rw [List.length_set]; exact (h.1.stored j u).1, fun k x y hx hy => ?_⟩
  by_cases hk : j = k
  · subst hk
    rw [List.getElem?_set_self (by omega)] at hx hy
    cases hx
    cases hy
    exact ⟨hu.setOwn hf rfl, hf, hB⟩
  · rw [List.getElem?_set_ne hk] at hx hy
    obtain ⟨h1, h2, h3⟩ := h.2 k x y hx hy
    exact ⟨h1.setOwn h2 rfl, h2, h3⟩
theorem OwnN.at_ (h : OwnN e base B w (.slice (some ⟨g, 0, none⟩) n cap) us ns) (hn : ns.length = n) (hj : ns[j]? = some m) :
    ∃ A k c, w.cell? ⟨g, j, none⟩ = some (.slice A k c) ∧ w.frozen? ⟨g, j, none⟩ = false ∧ CanV w (.slice A k c) m ∧ Far (.slice A k c) (.slice (some ⟨g, 0, none⟩) n cap) ∧ New B (.slice A k c) := by
  have hlt : j < ns.length := (List.getElem?_eq_some_iff.1 hj).1
  subst hn
  have hl : us.length = ns.length := by have := h.1.1; omega
  obtain ⟨x, hx⟩ : ∃ x, us[j]? = some x := ⟨_, List.getElem?_eq_getElem (by omega)⟩
  obtain ⟨h1, h2, h3⟩ := h.2 j x m hx hj
  obtain ⟨A, k, c, rfl⟩ := h1.form
  exact ⟨A, k, c, (h.1.cellAt j (by omega)).trans hx, h.1.frozenAt j, h1, h2, h3⟩
end

end Go.Proofs.YtnedgbebajhcpaaGreatDoor
namespace Go.Proofs.YtnedgbebajhcpaaGreatDoor
open Go.RowKit Num

theorem upto_set (f : Nat → Nat) (n k m : Nat) : (upto_ f n).set k m = upto_ (fun j => if j = k then m else f j) n := by
  apply List.ext_getElem?
  intro j
  rw [List.getElem?_set]
  by_cases hj : j < n
  · rw [upto_at hj, upto_at hj, upto_length]
    by_cases h : k = j
    · subst h; simp [hj]
    · have h' : ¬ j = k := fun e => h e.symm
      simp [h, h']
  · have e1 : (upto_ f n)[j]? = none := List.getElem?_eq_none (by rw [upto_length]; omega)
    have e2 : (upto_ (fun j => if j = k then m else f j) n)[j]? = none := List.getElem?_eq_none (by rw [upto_length]; omega)
    rw [e1, e2, upto_length]
    split
    · rename_i h; subst h; simp [hj]
    · rfl
theorem upto_congr {f g : Nat → Nat} {n : Nat} (h : ∀ j, j < n → f j = g j) : upto_ f n = upto_ g n := List.map_congr_left fun j hj => h j (List.mem_range.1 hj)
/-- The row of the next specimen, its first k places written. -/
def wrow (i D k : Nat) (j : Nat) : Nat := if j < k then occ (i + 1) D j else 0
theorem wrow_zero (i D n : Nat) : upto_ (wrow i D 0) n = List.replicate n 0 := by
  apply List.ext_getElem?
  intro j
  by_cases hj : j < n
  · rw [upto_at hj, List.getElem?_replicate, if_pos hj]; rfl
  · rw [List.getElem?_eq_none (by rw [upto_length]; omega), List.getElem?_eq_none (by simp; omega)]
theorem wrow_next (i D n k : Nat) : (upto_ (wrow i D k) n).set k (occ (i + 1) D k) = upto_ (wrow i D (k + 1)) n := by
  rw [upto_set]
  refine upto_congr fun j _ => ?_
  unfold wrow
  by_cases h : j = k
  · subst h; rw [if_pos rfl, if_pos (by omega)]
  · rw [if_neg h]
    by_cases h2 : j < k
    · rw [if_pos h2, if_pos (by omega)]
    · rw [if_neg h2, if_neg (by omega)]
theorem wrow_all (i D : Nat) : upto_ (wrow i D (i + 2)) (i + 2) = upto_ (occ (i + 1) D) (i + 2) := upto_congr fun j hj => if_pos hj
theorem wrow_set_get {i D n k m : Nat} (h : k < n) : ((upto_ (wrow i D k) n).set k m)[k]? = some m := by rw [List.getElem?_set_self (by rw [upto_length]; exact h)]
theorem wrow_get {i D n k : Nat} (h : k < n) : (upto_ (wrow i D k) n)[k]? = some 0 := by rw [upto_at h]; unfold wrow; rw [if_neg (by omega)]
theorem own_zero {e : TypeId} {base B g n : Nat} {w : World} (h : w.ownsRow base e 1 (.slice (some ⟨g, 0, none⟩) n n) n (List.replicate n (.slice none 0 0))) : OwnN e base B w (.slice (some ⟨g, 0, none⟩) n n) (List.replicate n (.slice none 0 0)) (List.replicate n 0) := by
  refine ⟨by simpa using h, fun k u m hu hm => ?_⟩
  rw [List.getElem?_replicate] at hu hm
  split at hu
  · simp_all
    obtain rfl := hu
    obtain rfl := hm
    exact ⟨CanV.nil_ w, fun A n c g e => by simp at e, New.nil_ _⟩
  · simp at hu

theorem made_nil (n : Nat) : (madeCells #[Value.slice none 0 0] n).toList = List.replicate n (.slice none 0 0) := by
  refine List.ext_getElem (by simp [madeCells]) fun i h1 h2 => ?_
  simp [madeCells, Nat.mod_one]
section
variable {e : TypeId} {base B g n cap j : Nat} {w w1 : World} {v u : Value} {us : List Value} {ns : List Nat} {m : Nat}
theorem OwnN.write (h : OwnN e base B w (.slice (some ⟨g, 0, none⟩) n cap) us ns) (hn : ns.length = n) (hj : j < n) (hE : Ext w w1) (hu : CanV w1 u m) (hN : New w.heap.size u) (hB : B ≤ w.heap.size) :
    OwnN e base B (w1.setCell ⟨g, j, none⟩ u) (.slice (some ⟨g, 0, none⟩) n cap) (us.set j u) (ns.set j m) :=
  (h.ext hE).stored hn hj hu (Far.of_new hN fun g hg => (h.1.lt g hg).2) (hN.mono hB)
end
theorem cell_spotT {w : World} {p : Addr} {u : Value} (h : w.cell? p = some u) : p.spot = none := by
  unfold World.cell? at h
  split at h
  · split at h
    · cases h
    · simp_all
  · cases h
theorem NatsV.pl {B : Nat} {w : World} {A : Option Addr} {n c k m : Nat} {ns : List Nat} (h : NatsV B w (.slice A n c) ns) (hk : ns[k]? = some m) :
    ∃ b o A' k' c', A = some ⟨b, o, none⟩ ∧ b < w.heap.size ∧ w.cell? ⟨b, o + k, none⟩ = some (.slice A' k' c') ∧ CanV w (.slice A' k' c') m ∧ New B (.slice A' k' c') := by
  obtain ⟨ad, A', k', c', rfl, hb, hc, h1, h2⟩ := h.at_ hk
  have hlt : k < ns.length := (List.getElem?_eq_some_iff.1 hk).1
  obtain ⟨ad0, A0, k0, c0, e0, _, hc0, _, _⟩ := h.at_ (k := 0) (List.getElem?_eq_getElem (by omega))
  injection e0 with e0
  subst e0
  rw [add_nought] at hc0
  obtain ⟨bb, o, sp⟩ := ad
  have hsp : sp = none := cell_spotT hc0
  subst hsp
  have ha : ∀ j, (⟨bb, o, none⟩ : Addr).add j = ⟨bb, o + j, none⟩ := fun j => by
    unfold Addr.add
    by_cases hj : j = 0 <;> simp [hj]
  rw [ha] at hc
  exact ⟨bb, o, A', k', c', rfl, hb, hc, h1, h2⟩
theorem sumTo_mono {f : Nat → Nat} {n m : Nat} (h : n ≤ m) : sumTo f n ≤ sumTo f m := by
  induction m with
  | zero => rw [show n = 0 from by omega]; exact Nat.le_refl _
  | succ m ih =>
    by_cases e : n = m + 1
    · rw [e]; exact Nat.le_refl _
    · exact Nat.le_trans (ih (by omega)) (Nat.le_add_right _ _)
theorem occ_le (n D d : Nat) : occ n D d ≤ D ^ n := by
  by_cases h : d ≤ n
  · have h1 := sumTo_mono (f := occ n D) (n := d + 1) (m := n + 1) (by omega)
    rw [occ_sum] at h1
    have h2 : occ n D d ≤ sumTo (occ n D) (d + 1) := Nat.le_add_left _ _
    omega
  · rw [occ_gt (.inl (by omega))]; exact Nat.zero_le _
theorem occ_len {n D d : Nat} (hn : n ≤ 31) (hD : D ≤ 60) : (limbsOf (occ n D d)).length ≤ 32 := by
  have h1 := limbsOf_length_mono (occ_le n D d)
  have h2 : (limbsOf (D ^ n)).length ≤ n + 1 := len_of_le_pow (Nat.le_refl _) (by omega)
  omega

/-- What ways answers. -/
def GivesW (w : World) (ns : List Nat) (m : Nat) (e : Ending) (w' : World) : Prop :=
  ∃ A c A' k' c', e = .returned (.tuple #[.slice A ns.length c, .agg #[.slice A' k' c']]) ∧ NatsV w.heap.size w' (.slice A ns.length c) ns ∧ CanV w' (.slice A' k' c') m ∧ Ext w w' ∧ New w.heap.size (.slice A ns.length c) ∧ New w.heap.size (.slice A' k' c')

theorem NatsV.mono {B B' : Nat} {w : World} {v : Value} {ns : List Nat} (h : NatsV B w v ns) (hB : B' ≤ B) : NatsV B' w v ns := by
  obtain ⟨A, cap, us, h1, h2, h3, h4, h5⟩ := h
  exact ⟨A, cap, us, h1, h2, h3, h4, fun k u m hu hm => ⟨(h5 k u m hu hm).1, (h5 k u m hu hm).2.mono hB⟩⟩
/-- The end: the second answer stored in its box. -/
theorem GivesW.box {w w1 : World} {A : Option Addr} {l c m k' c' b B : Nat} {A' : Option Addr} {ns : List Nat} (hl : ns.length = l) (hE : Ext w w1) (h1 : NatsV B w1 (.slice A l c) ns) (h2 : CanV w1 (.slice A' k' c') m) (n1 : New (b + 1) (.slice A l c)) (n2 : New (b + 1) (.slice A' k' c')) (hb : w.heap.size ≤ b ∧ b < B) :
    GivesW w ns m (.returned (.tuple #[.slice A l c, .agg #[.slice A' k' c']])) (w1.setCell ⟨b, 0, none⟩ (.slice A' k' c')).drew := by
  subst hl
  exact ⟨A, c, A', k', c', rfl, ((NatsV.set (h1.mono hb.2) n1 (Nat.lt_succ_self _) _).mono (by omega)).ext (Below.refl _ _).drew, CanV.drew (U32s.setNew h2 n2 (Nat.lt_succ_self _) _), (hE.setCell hb.1 _).drew, n1.mono (by omega), n2.mono (by omega)⟩

end Go.Proofs.YtnedgbebajhcpaaGreatDoor
namespace Go.Proofs.YtnedgbebajhcpaaGreatDoor
open Go.RowKit Num

theorem sum_take_succ (ns : List Nat) (k : Nat) {m : Nat} (h : ns[k]? = some m) : (ns.take (k + 1)).sum = (ns.take k).sum + m := by
  rw [List.take_add_one, h, List.sum_append]
  simp
theorem lsum_len {ns : List Nat} {L : Nat} (h : ∀ m ∈ ns, (limbsOf m).length ≤ L) : (limbsOf ns.sum).length ≤ (L + 1) * ns.length := by
  induction ns with
  | nil => show (limbsOf 0).length ≤ _; rw [limbsOf_zero]; exact Nat.zero_le _
  | cons m l ih =>
    have h1 := limbsOf_length_add m l.sum
    have h2 := h m (List.mem_cons_self ..)
    have h3 := ih fun x hx => h x (List.mem_cons_of_mem _ hx)
    rw [List.sum_cons, List.length_cons, Nat.mul_succ]
    omega
theorem sum_len_take {ns : List Nat} {L : Nat} (h : ∀ m ∈ ns, (limbsOf m).length ≤ L) (k : Nat) : (limbsOf (ns.take k).sum).length ≤ (L + 1) * ns.length :=
  Nat.le_trans (lsum_len fun m hm => h m (List.mem_of_mem_take hm)) (Nat.mul_le_mul_left _ (List.length_take_le' _ _))
theorem sum_upto (f : Nat → Nat) (n k : Nat) (h : k ≤ n) : ((upto_ f n).take k).sum = sumTo f k := by
  unfold upto_
  rw [← List.map_take, List.take_range, Nat.min_eq_left h]
  clear h
  induction k with
  | zero => rfl
  | succ k ih => rw [List.range_succ, List.map_append, List.sum_append, ih, sumTo_succ]; simp
theorem sum_upto_drop (f : Nat → Nat) (n k : Nat) (h : k ≤ n) : ((upto_ f n).drop k).sum + sumTo f k = sumTo f n := by
  have h2 := sum_upto f n n (Nat.le_refl _)
  rw [List.take_of_length_le (by rw [upto_length]; exact Nat.le_refl _)] at h2
  rw [← sum_upto f n k h, ← h2, Nat.add_comm, ← List.sum_append, List.take_append_drop]
theorem NatsV.take_ {B : Nat} {w : World} {A : Option Addr} {n c k : Nat} {ns : List Nat} (h : NatsV B w (.slice A n c) ns) (hk : k ≤ n) : NatsV B w (.slice A k c) (ns.take k) := by
  obtain ⟨A', cap, us, e, h2, h3, h4, h5⟩ := h
  injection e with e1 e2 e3
  subst e1 e2 e3
  have hl : (ns.take k).length = k := by rw [List.length_take]; omega
  refine ⟨_, _, us.take k, by rw [hl], by omega, h3, by rw [hl]; exact h4.take_ hk, fun j u m hu hm => ?_⟩
  rw [List.getElem?_take] at hu hm
  split at hu
  · rename_i hj
    rw [if_pos hj] at hm
    exact h5 j u m hu hm
  · cases hu
theorem NatsV.drop_ {B : Nat} {w : World} {A : Option Addr} {n c k : Nat} {ns : List Nat} (h : NatsV B w (.slice A n c) ns) (hk : k ≤ n) : NatsV B w (.slice (if c = k then A else A.map (·.add k)) (n - k) (c - k)) (ns.drop k) := by
  obtain ⟨A', cap, us, e, h2, h3, h4, h5⟩ := h
  injection e with e1 e2 e3
  subst e1 e2 e3
  have hl : (ns.drop k).length = ns.length - k := List.length_drop ..
  have hu0 := h4.1
  refine ⟨_, _, us.drop k, by rw [hl], by omega, by omega, ⟨by rw [List.length_drop]; omega, fun hn => ?_⟩, fun j u m hu hm => ?_⟩
  · obtain ⟨ad, rfl, hb, hc⟩ := h4.2 (by omega)
    rw [if_neg (by omega)]
    refine ⟨ad.add k, rfl, by rw [block_of_add]; exact hb, fun j u hu => ?_⟩
    rw [add_of_add]
    exact hc _ u (by rw [← hu, List.getElem?_drop])
  · rw [List.getElem?_drop] at hu hm
    exact h5 _ u m hu hm

end Go.Proofs.YtnedgbebajhcpaaGreatDoor
