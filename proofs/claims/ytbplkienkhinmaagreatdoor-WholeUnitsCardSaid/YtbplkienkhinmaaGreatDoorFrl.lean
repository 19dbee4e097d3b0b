/- Lists of fractions: slices that the call itself made, each element canonical. -/
import Derived.Test.YtbplkienkhinmaaGreatDoorFrac
set_option linter.unusedVariables false
set_option linter.unusedSimpArgs false
set_option maxRecDepth 100000
namespace Go.Proofs.YtbplkienkhinmaaGreatDoor
open Go.RowKit Num

theorem cell_spotF {w : World} {p : Addr} {u : Value} (h : w.cell? p = some u) : p.spot = none := by
  unfold World.cell? at h
  split at h
  · split at h
    · cases h
    · simp_all
  · cases h
/-- A fraction's three cells. -/
structure Fc where
  neg : Bool
  num : Value
  den : Value
def Fc.cells (t : Fc) : List Value := [.bool t.neg, t.num, t.den]
def fcells (ts : List Fc) : List Value := ts.flatMap Fc.cells
theorem fcells_nil : fcells [] = [] := rfl
theorem fcells_snoc (ts : List Fc) (t : Fc) : fcells ts ++ [.bool t.neg, t.num, t.den] = fcells (ts ++ [t]) := by
  unfold fcells
  rw [List.flatMap_append]
  rfl
theorem fcells_length (ts : List Fc) : (fcells ts).length = ts.length * 3 := by
  induction ts with
  | nil => rfl
  | cons t l ih =>
    show (t.cells ++ fcells l).length = _
    rw [List.length_append, ih]
    show 3 + l.length * 3 = (l.length + 1) * 3
    omega
theorem fcells_at : ∀ {ts : List Fc} {k : Nat} {t : Fc}, ts[k]? = some t → (fcells ts)[k * 3]? = some (.bool t.neg) ∧ (fcells ts)[k * 3 + 1]? = some t.num ∧ (fcells ts)[k * 3 + 2]? = some t.den
  | [], k, t, h => by simp at h
  | t' :: l, 0, t, h => by
    obtain rfl : t' = t := by simpa using h
    exact ⟨rfl, rfl, rfl⟩
  | t' :: l, k + 1, t, h => by
    have ih := fcells_at (ts := l) (k := k) (t := t) (by simpa using h)
    have e : ∀ i, (fcells (t' :: l))[(k + 1) * 3 + i]? = (fcells l)[k * 3 + i]? := fun i => by
      show (t'.cells ++ fcells l)[(k + 1) * 3 + i]? = _
      rw [List.getElem?_append_right (by show 3 ≤ _; omega)]
      show (fcells l)[(k + 1) * 3 + i - 3]? = _
      congr 1
      omega
    exact ⟨(e 0).trans ih.1, (e 1).trans ih.2.1, (e 2).trans ih.2.2⟩
theorem fcells_one {ts : List Fc} (h : ∀ t ∈ ts, t.num.oneCell' = true ∧ t.den.oneCell' = true) : ∀ u ∈ fcells ts, u.oneCell' = true := by
  intro u hu
  obtain ⟨t, ht, hu⟩ := List.mem_flatMap.1 hu
  simp only [Fc.cells, List.mem_cons, List.not_mem_nil, or_false] at hu
  rcases hu with rfl | rfl | rfl
  · rfl
  · exact (h t ht).1
  · exact (h t ht).2

/-- A list of fractions in a row of the call's own. -/
def OwnF (e : TypeId) (base B : Nat) (w : World) (v : Value) (ts : List Fc) (qs : List Rat) : Prop :=
  (w.ownsRow base e 3 v qs.length (fcells ts) ∧ ts.length = qs.length) ∧ ∀ (k : Nat) (t : Fc) (q : Rat), ts[k]? = some t → qs[k]? = some q → FracV w t.neg t.num t.den q ∧ Far t.num v ∧ Far t.den v ∧ New B t.num ∧ New B t.den
/-- A list of fractions, to be read. -/
def FracsV (B : Nat) (w : World) (v : Value) (qs : List Rat) : Prop :=
  ∃ A cap ts, v = .slice A qs.length cap ∧ qs.length ≤ cap ∧ cap ≤ 9223372036854775807 ∧ ts.length = qs.length ∧ Reads w 3 A qs.length (fcells ts) ∧ ∀ (k : Nat) (t : Fc) (q : Rat), ts[k]? = some t → qs[k]? = some q → FracV w t.neg t.num t.den q ∧ New B t.num ∧ New B t.den

section
variable {e : TypeId} {base B : Nat} {w w' w1 : World} {v v' : Value} {ts : List Fc} {qs : List Rat} {t : Fc} {q : Rat}
theorem FracV.kept {b : Bool} {x y : Value} (h : FracV w b x y q) (hg : w.grownBy w' v.ownBlock) (hx : Far x v) (hy : Far y v) : FracV w' b x y q := ⟨h.1, h.2.1.kept hg hx, h.2.2.kept hg hy⟩
theorem OwnF.nil_ (e : TypeId) (base B : Nat) (w : World) : OwnF e base B w (.slice none 0 0) [] [] := ⟨⟨World.ownsRow_nil _ _ _ _, rfl⟩, by simp⟩
theorem OwnF.ext (h : OwnF e base B w v ts qs) (hE : Ext w w') : OwnF e base B w' v ts qs := by
  refine ⟨⟨h.1.1.kept (Ext.grown hE) (by cases v.ownBlock <;> simp), h.1.2⟩, fun k t q hu hm => ?_⟩
  obtain ⟨h1, h2⟩ := h.2 k t q hu hm
  exact ⟨h1.below hE, h2⟩
theorem OwnF.push (h : OwnF e base B w v ts qs) (hu : FracV w t.neg t.num t.den q) (h1 : Far t.num v) (h2 : Far t.den v) (hB1 : New B t.num) (hB2 : New B t.den) (hown : w'.ownsRow base e 3 v' (qs.length + 1) (fcells ts ++ [.bool t.neg, t.num, t.den])) (hg : w.grownBy w' v.ownBlock) (hw : v'.ownBlock = v.ownBlock ∨ New w.heap.size v') :
    OwnF e base B w' v' (ts ++ [t]) (qs ++ [q]) := by
  have far : ∀ {x k}, CanV w x k → Far x v → Far x v' := fun hx hf => by
    rcases hw with hw | hw
    · exact hf.same hw
    · exact Far.new hx hw
  have hl := h.1.2
  refine ⟨⟨by rw [fcells_snoc] at hown; simpa using hown, by simp [hl]⟩, fun k x y hx hy => ?_⟩
  rcases Nat.lt_or_ge k qs.length with hk | hk
  · rw [List.getElem?_append_left (by omega)] at hx hy
    obtain ⟨k1, k2, k3, k4, k5⟩ := h.2 k x y hx hy
    exact ⟨k1.kept hg k2 k3, far k1.2.1 k2, far k1.2.2 k3, k4, k5⟩
  · rw [List.getElem?_append_right (by omega)] at hx hy
    rw [hl] at hx
    have hk0 : k - qs.length = 0 := by
      rcases Nat.eq_zero_or_pos (k - qs.length) with h | h
      · exact h
      · rw [List.getElem?_eq_none (by simp; omega)] at hy; cases hy
    rw [hk0] at hx hy
    simp at hx hy
    subst hx hy
    exact ⟨hu.kept hg h1 h2, far hu.2.1 h1, far hu.2.2 h2, hB1, hB2⟩
theorem OwnF.fracs (h : OwnF e base B w v ts qs) : FracsV B w v qs := by
  rcases h.1.1.2 with ⟨rfl, h0⟩ | ⟨g, cap, cur, rfl, _, _, hc, hm, _, _⟩
  · have e1 : qs = [] := List.eq_nil_of_length_eq_zero h0
    subst e1
    have e2 : ts = [] := List.eq_nil_of_length_eq_zero (by simpa using h.1.2)
    subst e2
    exact ⟨none, 0, [], rfl, Nat.le_refl _, by omega, rfl, Reads.nil_, by simp⟩
  · exact ⟨_, cap, ts, rfl, hc, hm, h.1.2, Reads.of_own h.1.1, fun k t q hu hm => by obtain ⟨k1, _, _, k4, k5⟩ := h.2 k t q hu hm; exact ⟨k1, k4, k5⟩⟩
theorem FracsV.ext (h : FracsV B w v qs) (hE : Ext w w') : FracsV B w' v qs := by
  obtain ⟨A, cap, ts, h1, h2, h3, h4, h5, h6⟩ := h
  exact ⟨A, cap, ts, h1, h2, h3, h4, h5.below hE, fun k t q hu hm => ⟨(h6 k t q hu hm).1.below hE, (h6 k t q hu hm).2⟩⟩
theorem FracsV.nil_ (B : Nat) (w : World) : FracsV B w (.slice none 0 0) [] := ⟨none, 0, [], rfl, Nat.le_refl _, by omega, rfl, Reads.nil_, by simp⟩
theorem FracsV.form (h : FracsV B w v qs) : ∃ A c, v = .slice A qs.length c ∧ qs.length ≤ c ∧ c ≤ 9223372036854775807 := by
  obtain ⟨A, cap, ts, h1, h2, h3, _⟩ := h
  exact ⟨A, cap, h1, h2, h3⟩
theorem FracsV.at_ {A : Option Addr} {n c k : Nat} (h : FracsV B w (.slice A n c) qs) (hk : qs[k]? = some q) :
    ∃ b o neg A1 k1 c1 A2 k2 c2, A = some ⟨b, o, none⟩ ∧ b < w.heap.size ∧ w.cell? ⟨b, o + k * 3, none⟩ = some (.bool neg) ∧ w.cell? ⟨b, o + k * 3 + 1, none⟩ = some (.slice A1 k1 c1) ∧ w.cell? ⟨b, o + k * 3 + 2, none⟩ = some (.slice A2 k2 c2) ∧
      FracV w neg (.slice A1 k1 c1) (.slice A2 k2 c2) q ∧ New B (.slice A1 k1 c1) ∧ New B (.slice A2 k2 c2) := by
  obtain ⟨A0, cap, ts, e, h2, h3, h4, h5, h6⟩ := h
  injection e with e1 e2 e3
  subst e1
  have hlt : k < qs.length := (List.getElem?_eq_some_iff.1 hk).1
  obtain ⟨ad, rfl, hb, hc⟩ := h5.2 (by omega)
  obtain ⟨t, ht⟩ : ∃ t, ts[k]? = some t := ⟨_, List.getElem?_eq_getElem (by omega)⟩
  obtain ⟨t0, ht0⟩ : ∃ t, ts[0]? = some t := ⟨_, List.getElem?_eq_getElem (by omega)⟩
  have gz := hc 0 _ (fcells_at ht0).1
  obtain ⟨c0, c1, c2⟩ := fcells_at ht
  obtain ⟨f1, f2, f3⟩ := h6 k t q ht hk
  have g0 := hc _ _ c0
  have g1 := hc _ _ c1
  have g2 := hc _ _ c2
  obtain ⟨neg, num, den⟩ := t
  obtain ⟨A1, k1, c1', e1⟩ := f1.2.1.form
  obtain ⟨A2, k2, c2', e2⟩ := f1.2.2.form
  simp only at e1 e2 f1 f2 f3 g0 g1 g2
  subst e1 e2
  obtain ⟨bb, o, sp⟩ := ad
  have hsp : sp = none := by have := Go.Proofs.YtbplkienkhinmaaGreatDoor.cell_spotF gz; simpa [Addr.add] using this
  subst hsp
  have ha : ∀ j, (⟨bb, o, none⟩ : Addr).add j = ⟨bb, o + j, none⟩ := fun j => by
    unfold Addr.add
    by_cases hj : j = 0 <;> simp [hj]
  rw [ha] at g0 g1 g2
  exact ⟨bb, o, neg, A1, k1, c1', A2, k2, c2', rfl, hb, g0, g1, g2, f1, f2, f3⟩
end

end Go.Proofs.YtbplkienkhinmaaGreatDoor
