/- metal: Kernel. -/
import Derived.Test.YtmfigiifflljpaaMetF
set_option linter.unusedVariables false
set_option linter.unusedSimpArgs false
set_option maxRecDepth 100000
namespace Go.Proofs.Ytmfigiifflljpaa
open Go.RowKit Num

/-- The columns without a lead. -/
def frL (R : Rd) (C : Nat) : List Nat := (List.range C).filter (fun c => decide (c ∉ R.leads))
theorem frL_in {R : Rd} {c : Nat} (h : c ∈ R.leads) : frL R (c + 1) = frL R c := by
  unfold frL
  rw [List.range_succ, List.filter_append]
  simp [h]
theorem frL_out {R : Rd} {c : Nat} (h : c ∉ R.leads) : frL R (c + 1) = frL R c ++ [c] := by
  unfold frL
  rw [List.range_succ, List.filter_append]
  simp [h]
theorem frL_at {R : Rd} {c : Nat} : ∀ {C : Nat}, c < C → c ∉ R.leads → (frL R c).length < (frL R C).length ∧ (frL R C).getD (frL R c).length 0 = c
  | 0, h, _ => by omega
  | C + 1, h, hn => by
    rcases Nat.lt_or_ge c C with h1 | h1
    · obtain ⟨a, b⟩ := frL_at h1 hn
      by_cases hC : C ∈ R.leads
      · rw [frL_in hC]; exact ⟨a, b⟩
      · rw [frL_out hC]
        refine ⟨by rw [List.length_append]; omega, ?_⟩
        rw [List.getD_eq_getElem?_getD, List.getElem?_append_left a, ← List.getD_eq_getElem?_getD]
        exact b
    · obtain rfl : c = C := by omega
      rw [frL_out hn]
      refine ⟨by rw [List.length_append]; simp, ?_⟩
      rw [List.getD_eq_getElem?_getD, List.getElem?_append_right (Nat.le_refl _), Nat.sub_self]
      rfl
theorem frL_len (R : Rd) (C : Nat) : (frL R C).length ≤ C := by
  have := List.length_filter_le (fun c => decide (c ∉ R.leads)) (List.range C)
  rw [List.length_range] at this
  exact this
/-- The vector as it grows. -/
def kerT (R : Rd) (c i : Nat) : Nat → Rat := fun j => if j = c then 1 else if j ∈ R.leads.take i then -(R.m (R.leads.idxOf j) c) else 0
theorem kerT_zero {R : Rd} {c j : Nat} : (if j = c then 1 else 0) = kerT R c 0 j := by
  unfold kerT
  rw [List.take_zero]
  simp
theorem kerT_all (R : Rd) (c : Nat) : kerT R c R.leads.length = kerV R c := by
  unfold kerT kerV
  rw [List.take_length]
theorem kerT_succ {R : Rd} {c i x j : Nat} (hd : R.leads.Nodup) (hx : R.leads[i]? = some x) (hc : c ∉ R.leads) : (if j = x then -(R.m i c) else kerT R c i j) = kerT R c (i + 1) j := by
  have hi := (List.getElem?_eq_some_iff.1 hx).1
  have ht : R.leads.take (i + 1) = R.leads.take i ++ [x] := by rw [List.take_add_one, hx]; rfl
  unfold kerT
  rw [ht]
  by_cases hj : j = x
  · rw [if_pos hj, if_neg (fun h => hc (by rw [← h, hj]; exact List.mem_of_getElem? hx)), if_pos (List.mem_append.2 (.inr (List.mem_singleton.2 hj))), hj, idx_at hd hx]
  · rw [if_neg hj]
    by_cases h1 : j = c
    · rw [if_pos h1, if_pos h1]
    · rw [if_neg h1, if_neg h1]
      by_cases h2 : j ∈ R.leads.take i
      · rw [if_pos h2, if_pos (List.mem_append.2 (.inl h2))]
      · rw [if_neg h2, if_neg (fun h => by
          rcases List.mem_append.1 h with h | h
          · exact h2 h
          · exact hj (List.mem_singleton.1 h))]

/-- A row of the call's own, its first k numbers written. -/
def RowF (base : Nat) (w : World) (v : Value) (c k : Nat) (f : Nat → Rat) : Prop :=
  ∃ ts, w.ownsRow base 34 3 v c (fcells ts) ∧ ts.length = c ∧ ∀ (j : Nat) (t : Fc), ts[j]? = some t → (j < k → FracV w t.neg t.num t.den (f j)) ∧ (Far t.num v ∧ Far t.den v) ∧ New base t.num ∧ New base t.den
section
variable {base : Nat} {w w' w0 : World} {v : Value} {c k : Nat} {f g : Nat → Rat}
theorem RowF.ext (h : RowF base w v c k f) (hE : Ext w w') : RowF base w' v c k f := by
  obtain ⟨ts, h1, h2, h3⟩ := h
  exact ⟨ts, h1.kept (Ext.grown hE) (by cases v.ownBlock <;> simp), h2, fun j t ht => ⟨fun hj => ((h3 j t ht).1 hj).below hE, (h3 j t ht).2⟩⟩
theorem RowF.congr (h : RowF base w v c k f) (he : ∀ j, j < k → f j = g j) : RowF base w v c k g := by
  obtain ⟨ts, h1, h2, h3⟩ := h
  exact ⟨ts, h1, h2, fun j t ht => ⟨fun hj => by rw [← he j hj]; exact (h3 j t ht).1 hj, (h3 j t ht).2⟩⟩
theorem RowF.lt {g0 c' : Nat} (h : RowF base w (.slice (some ⟨g0, 0, none⟩) c c') c k f) : base ≤ g0 ∧ g0 < w.heap.size := by
  obtain ⟨ts, h1, _⟩ := h
  exact h1.lt g0 rfl
theorem RowF.cells {g0 c' j : Nat} (h : RowF base w (.slice (some ⟨g0, 0, none⟩) c c') c k f) (hj : j < c) :
    (∃ b s t, w.cell? ⟨g0, j * 3, none⟩ = some (.bool b) ∧ w.cell? ⟨g0, j * 3 + 1, none⟩ = some s ∧ w.cell? ⟨g0, j * 3 + 2, none⟩ = some t) ∧ w.frozen? ⟨g0, j * 3, none⟩ = false ∧ w.frozen? ⟨g0, j * 3 + 1, none⟩ = false ∧ w.frozen? ⟨g0, j * 3 + 2, none⟩ = false := by
  obtain ⟨ts, h1, h2, h3⟩ := h
  obtain ⟨t, ht⟩ : ∃ t, ts[j]? = some t := ⟨_, List.getElem?_eq_getElem (by omega)⟩
  obtain ⟨c0, c1, c2⟩ := fcells_at ht
  exact ⟨⟨t.neg, t.num, t.den, (h1.cellAt _ (by omega)).trans c0, (h1.cellAt _ (by omega)).trans c1, (h1.cellAt _ (by omega)).trans c2⟩, h1.frozenAt _, h1.frozenAt _, h1.frozenAt _⟩
theorem RowF.put {g0 c' j k' : Nat} {b : Bool} {s t : Value} {q : Rat} (h0 : RowF base w0 (.slice (some ⟨g0, 0, none⟩) c c') c k f) (hE : Ext w0 w) (hj : j < c) (hk : ∀ i, i < k' → i = j ∨ i < k) (he : FracV w b s t q) (hs : New w0.heap.size s) (ht : New w0.heap.size t) (hB : base ≤ w0.heap.size) :
    RowF base (((w.setCell ⟨g0, j * 3, none⟩ (.bool b)).setCell ⟨g0, j * 3 + 1, none⟩ s).setCell ⟨g0, j * 3 + 2, none⟩ t) (.slice (some ⟨g0, 0, none⟩) c c') c k' (fun i => if i = j then q else f i) := by
  have hl := h0.lt.2
  have av : Far s (.slice (some ⟨g0, 0, none⟩) c c') := Far.of_new hs fun g hg => by cases hg; exact hl
  have av' : Far t (.slice (some ⟨g0, 0, none⟩) c c') := Far.of_new ht fun g hg => by cases hg; exact hl
  obtain ⟨ts, h1, h2, h3⟩ := h0.ext hE
  obtain ⟨s1, g1⟩ := World.ownsRow.stored h1 (j * 3) (.bool b)
  obtain ⟨s2, g2⟩ := World.ownsRow.stored s1 (j * 3 + 1) s
  obtain ⟨s3, g3⟩ := World.ownsRow.stored s2 (j * 3 + 2) t
  rw [fcells_set ts j ⟨b, s, t⟩] at s3
  have hg := grownBy_two (grownBy_two g1 g2) g3
  refine ⟨ts.set j ⟨b, s, t⟩, s3, by rw [List.length_set]; exact h2, fun i t' ht' => ?_⟩
  by_cases hij : i = j
  · subst hij
    rw [List.getElem?_set_self (by omega)] at ht'
    cases ht'
    exact ⟨fun _ => by show FracV _ _ _ _ (if i = i then q else f i); rw [if_pos rfl]; exact he.kept (v := .slice (some ⟨g0, 0, none⟩) c c') hg av av', ⟨av, av'⟩, hs.mono hB, ht.mono hB⟩
  · rw [List.getElem?_set_ne (fun e => hij e.symm)] at ht'
    obtain ⟨k1, k2, k3⟩ := h3 i t' ht'
    refine ⟨fun hi => ?_, k2, k3⟩
    show FracV _ _ _ _ (if i = j then q else f i)
    rw [if_neg hij]
    rcases hk i hi with h | h
    · exact absurd h hij
    · exact (k1 h).kept (v := .slice (some ⟨g0, 0, none⟩) c c') hg k2.1 k2.2
theorem rowF_ext {W : World} {g0 j : Nat} (hE : Ext W w) (hb : W.heap.size ≤ g0) (x y z : Value) : Ext W (((w.setCell ⟨g0, j * 3, none⟩ x).setCell ⟨g0, j * 3 + 1, none⟩ y).setCell ⟨g0, j * 3 + 2, none⟩ z) := put_ext hE hb x y z
end
/-- A row of the call's own is pushed. -/
theorem MatO.push_row {base : Nat} {w w1 w' : World} {v v' u : Value} {n c : Nat} {us : List Value} {M : Mx} {f : Nat → Rat} (h : MatO true base w v n c us us M) (hB : base ≤ w.heap.size) (hE : Ext w w1) (hrow : RowF w.heap.size w1 u c c f) (hf : ∀ j, j < c → f j = M n j)
    (hown : w'.ownsRow base 39 1 v' (n + 1) (us ++ [u])) (hg : w1.grownBy w' v.ownBlock) (hw : v'.ownBlock = v.ownBlock ∨ New w1.heap.size v') :
    MatO true base w' v' (n + 1) c (us ++ [u]) (us ++ [u]) M := by
  obtain ⟨ts, h1, h2, h3⟩ := hrow
  refine h.push hB hE h1 h2 (fun j t ht => ?_) hown hg hw
  have hj : j < c := by have := (List.getElem?_eq_some_iff.1 ht).1; omega
  obtain ⟨k1, k2, k3, k4⟩ := h3 j t ht
  rw [← hf j hj]
  exact ⟨.inl (k1 hj), k2, h.avd k3, h.avd k4⟩
theorem madeF (n : Nat) : (madeCells #[Value.bool false, .slice none 0 0, .slice none 0 0] (n * 3)).toList = fcells (List.replicate n ⟨false, .slice none 0 0, .slice none 0 0⟩) := by
  refine List.ext_getElem? fun i => ?_
  by_cases hi : i < n * 3
  · have hk : i / 3 < n := by omega
    have ht : (List.replicate n (⟨false, .slice none 0 0, .slice none 0 0⟩ : Fc))[i / 3]? = some ⟨false, .slice none 0 0, .slice none 0 0⟩ := by rw [List.getElem?_replicate, if_pos hk]
    obtain ⟨c0, c1, c2⟩ := fcells_at ht
    have hm : (madeCells #[Value.bool false, .slice none 0 0, .slice none 0 0] (n * 3)).toList[i]? = some (#[Value.bool false, .slice none 0 0, .slice none 0 0][i % 3]!) := by
      rw [Array.getElem?_toList]
      unfold madeCells
      rw [Array.getElem?_map, Array.getElem?_range, if_pos hi]
      rfl
    rw [hm]
    have h3 : i % 3 = 0 ∨ i % 3 = 1 ∨ i % 3 = 2 := by omega
    rcases h3 with h | h | h
    · rw [h, show i = i / 3 * 3 by omega, c0]; rfl
    · rw [h, show i = i / 3 * 3 + 1 by omega, c1]; rfl
    · rw [h, show i = i / 3 * 3 + 2 by omega, c2]; rfl
  · rw [List.getElem?_eq_none (by rw [Array.length_toList, size_madeCells]; omega), List.getElem?_eq_none (by rw [fcells_length, List.length_replicate]; omega)]
theorem RowF.made {base : Nat} {w : World} {v : Value} {n : Nat} {f : Nat → Rat} (h : w.ownsRow base 34 3 v n (fcells (List.replicate n ⟨false, .slice none 0 0, .slice none 0 0⟩))) : RowF base w v n 0 f :=
  ⟨_, h, List.length_replicate, fun j t ht => by
    rw [List.getElem?_replicate] at ht
    split at ht
    · cases ht
      exact ⟨fun h => by omega, ⟨(fun _ _ _ _ h => by cases h), (fun _ _ _ _ h => by cases h)⟩, New.nil_ _, New.nil_ _⟩
    · cases ht⟩

end Go.Proofs.Ytmfigiifflljpaa
