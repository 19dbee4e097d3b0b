/- Matrices of fractions in memory: to be read, and to be written. No function is named here. -/
import Derived.Test.YtmfigiifflljpaaFrlA
import Derived.Test.YtmfigiifflljpaaKeep
import Derived.Test.YtmfigiifflljpaaMetP
set_option linter.unusedVariables false
set_option linter.unusedSimpArgs false
set_option maxRecDepth 100000
namespace Go.Proofs.Ytmfigiifflljpaa
open Go.RowKit Num

theorem AnyF.mono {w : World} {b : Bool} {s t : Value} {q : Rat} {L M : Nat} (h : AnyF w b s t q L) (hL : L ≤ M) : AnyF w b s t q M := by
  obtain ⟨n, d, h1, h2, h3, h4, h5⟩ := h
  exact ⟨n, d, h1, h2, h3, Nat.le_trans h4 hL, Nat.le_trans h5 hL⟩
theorem NatV.kept {w w' : World} {x v : Value} {n : Nat} (h : NatV w x n) (hg : w.grownBy w' v.ownBlock) (hx : Far x v) : NatV w' x n := by
  obtain ⟨xs, h1, h2⟩ := h
  exact ⟨xs, h1.kept hg hx, h2⟩
/-- A fraction: canonical, or (if K is false) any one of at most three limbs. -/
def Ent (K : Bool) (w : World) (b : Bool) (s t : Value) (q : Rat) : Prop := FracV w b s t q ∨ (K = false ∧ AnyF w b s t q 3)
section
variable {K : Bool} {w w' : World} {b : Bool} {s t v : Value} {q : Rat}
theorem Ent.below (h : Ent K w b s t q) (hE : Ext w w') : Ent K w' b s t q := h.imp (fun h => h.below hE) fun h => ⟨h.1, h.2.below hE⟩
theorem Ent.kept (h : Ent K w b s t q) (hg : w.grownBy w' v.ownBlock) (hx : Far s v) (hy : Far t v) : Ent K w' b s t q := by
  rcases h with h | ⟨h0, n, d, h1, h2, h3⟩
  · exact .inl (h.kept hg hx hy)
  · exact .inr ⟨h0, n, d, h1.kept hg hx, h2.kept hg hy, h3⟩
theorem Ent.any {L : Nat} (h : Ent K w b s t q) (hf : FB q L) (h3 : 3 ≤ L) (hL : L ≤ 549755813887) : AnyF w b s t q L := by
  rcases h with h | ⟨_, h⟩
  · exact h.any hf hL
  · exact h.mono h3
theorem Ent.form (h : Ent K w b s t q) : ∃ A k c A' k' c', s = .slice A k c ∧ t = .slice A' k' c' := by
  rcases h with h | ⟨_, n, d, h1, h2, _⟩
  · obtain ⟨A, k, c, e1⟩ := h.2.1.form
    obtain ⟨A', k', c', e2⟩ := h.2.2.form
    exact ⟨_, _, _, _, _, _, e1, e2⟩
  · obtain ⟨A, k, c, e1⟩ := h1.form
    obtain ⟨A', k', c', e2⟩ := h2.form
    exact ⟨_, _, _, _, _, _, e1, e2⟩
theorem Ent.weak (h : Ent K w b s t q) : Ent false w b s t q := h.imp id fun h => ⟨rfl, h.2⟩
theorem Ent.can (h : Ent true w b s t q) : FracV w b s t q := by
  rcases h with h | ⟨h, _⟩
  · exact h
  · cases h
end

/-- A list of fractions: f's values. -/
def EFs (K : Bool) (w : World) (v : Value) (n : Nat) (f : Nat → Rat) : Prop :=
  ∃ A cap ts, v = .slice A n cap ∧ n ≤ cap ∧ cap ≤ 9223372036854775807 ∧ ts.length = n ∧ Reads w 3 A n (fcells ts) ∧ ∀ (k : Nat) (t : Fc), ts[k]? = some t → Ent K w t.neg t.num t.den (f k)
/-- A matrix: a list of such lists. -/
def EMat (K : Bool) (w : World) (v : Value) (n c : Nat) (M : Mx) : Prop :=
  ∃ A cap us, v = .slice A n cap ∧ n ≤ cap ∧ cap ≤ 9223372036854775807 ∧ Reads w 1 A n us ∧ ∀ (k : Nat) (u : Value), us[k]? = some u → EFs K w u c (M k)
section
variable {K : Bool} {w w' : World} {v : Value} {n c : Nat} {f g : Nat → Rat} {M : Mx}
theorem EFs.below (h : EFs K w v n f) (hE : Ext w w') : EFs K w' v n f := by
  obtain ⟨A, cap, ts, h1, h2, h3, h4, h5, h6⟩ := h
  exact ⟨A, cap, ts, h1, h2, h3, h4, h5.below hE, fun k t ht => (h6 k t ht).below hE⟩
theorem EFs.congr (h : EFs K w v n f) (he : ∀ k, k < n → f k = g k) : EFs K w v n g := by
  obtain ⟨A, cap, ts, h1, h2, h3, h4, h5, h6⟩ := h
  refine ⟨A, cap, ts, h1, h2, h3, h4, h5, fun k t ht => ?_⟩
  have hk := (List.getElem?_eq_some_iff.1 ht).1
  rw [← he k (by omega)]
  exact h6 k t ht
theorem EFs.weak (h : EFs K w v n f) : EFs false w v n f := by
  obtain ⟨A, cap, ts, h1, h2, h3, h4, h5, h6⟩ := h
  exact ⟨A, cap, ts, h1, h2, h3, h4, h5, fun k t ht => (h6 k t ht).weak⟩
theorem EFs.form (h : EFs K w v n f) : ∃ A c, v = .slice A n c ∧ n ≤ c ∧ c ≤ 9223372036854775807 := by
  obtain ⟨A, cap, ts, h1, h2, h3, _⟩ := h
  exact ⟨A, cap, h1, h2, h3⟩
theorem EFs.nil_ (K : Bool) (w : World) (f : Nat → Rat) : EFs K w (.slice none 0 0) 0 f := ⟨none, 0, [], rfl, Nat.le_refl _, by omega, rfl, Reads.nil_, by simp⟩
theorem EFs.fracs (h : EFs true w v n f) : FracsV 0 w v (uptoQ f n) := by
  obtain ⟨A, cap, ts, h1, h2, h3, h4, h5, h6⟩ := h
  have hl : (uptoQ f n).length = n := uptoQ_length f n
  refine ⟨A, cap, ts, by rw [hl]; exact h1, by rw [hl]; exact h2, h3, by rw [hl]; exact h4, by rw [hl]; exact h5, fun k t q ht hq => ?_⟩
  have hk := (List.getElem?_eq_some_iff.1 ht).1
  rw [uptoQ_at (by omega)] at hq
  cases hq
  exact ⟨(h6 k t ht).can, fun b _ => Nat.zero_le _, fun b _ => Nat.zero_le _⟩
theorem EFs.of_fracs {B : Nat} (h : FracsV B w v (uptoQ f n)) : EFs true w v n f := by
  obtain ⟨A, cap, ts, h1, h2, h3, h4, h5, h6⟩ := h
  have hl : (uptoQ f n).length = n := uptoQ_length f n
  rw [hl] at h1 h2 h4 h5
  exact ⟨A, cap, ts, h1, h2, h3, h4, h5, fun k t ht => .inl (h6 k t (f k) ht (uptoQ_at (by have := (List.getElem?_eq_some_iff.1 ht).1; omega))).1⟩
theorem EFs.at_ {A : Option Addr} {m cp k : Nat} (h : EFs K w (.slice A m cp) n f) (hk : k < n) :
    ∃ b o neg A1 k1 c1 A2 k2 c2, A = some ⟨b, o, none⟩ ∧ b < w.heap.size ∧ w.cell? ⟨b, o + k * 3, none⟩ = some (.bool neg) ∧ w.cell? ⟨b, o + k * 3 + 1, none⟩ = some (.slice A1 k1 c1) ∧ w.cell? ⟨b, o + k * 3 + 2, none⟩ = some (.slice A2 k2 c2) ∧
      Ent K w neg (.slice A1 k1 c1) (.slice A2 k2 c2) (f k) := by
  obtain ⟨A0, cap, ts, e, h2, h3, h4, h5, h6⟩ := h
  injection e with e1 e2 e3
  subst e1
  obtain ⟨ad, rfl, hb, hc⟩ := h5.2 (by omega)
  obtain ⟨t, ht⟩ : ∃ t, ts[k]? = some t := ⟨_, List.getElem?_eq_getElem (by omega)⟩
  obtain ⟨t0, ht0⟩ : ∃ t, ts[0]? = some t := ⟨_, List.getElem?_eq_getElem (by omega)⟩
  have gz := hc 0 _ (fcells_at ht0).1
  obtain ⟨c0, c1, c2⟩ := fcells_at ht
  have f1 := h6 k t ht
  have g0 := hc _ _ c0
  have g1 := hc _ _ c1
  have g2 := hc _ _ c2
  obtain ⟨neg, num, den⟩ := t
  obtain ⟨A1, k1, c1', A2, k2, c2', e1, e2⟩ := f1.form
  simp only at e1 e2 f1 g0 g1 g2
  subst e1 e2
  obtain ⟨bb, o, sp⟩ := ad
  have hsp : sp = none := by have := Go.Proofs.Ytmfigiifflljpaa.cell_spotF gz; simpa [Addr.add] using this
  subst hsp
  have ha : ∀ j, (⟨bb, o, none⟩ : Addr).add j = ⟨bb, o + j, none⟩ := fun j => by
    unfold Addr.add
    by_cases hj : j = 0 <;> simp [hj]
  rw [ha] at g0 g1 g2
  exact ⟨bb, o, neg, A1, k1, c1', A2, k2, c2', rfl, hb, g0, g1, g2, f1⟩
theorem EMat.below (h : EMat K w v n c M) (hE : Ext w w') : EMat K w' v n c M := by
  obtain ⟨A, cap, us, h1, h2, h3, h4, h5⟩ := h
  exact ⟨A, cap, us, h1, h2, h3, h4.below hE, fun k u hu => (h5 k u hu).below hE⟩
theorem EMat.weak (h : EMat K w v n c M) : EMat false w v n c M := by
  obtain ⟨A, cap, us, h1, h2, h3, h4, h5⟩ := h
  exact ⟨A, cap, us, h1, h2, h3, h4, fun k u hu => (h5 k u hu).weak⟩
theorem EMat.congr {M' : Mx} (h : EMat K w v n c M) (he : ∀ i j, i < n → j < c → M i j = M' i j) : EMat K w v n c M' := by
  obtain ⟨A, cap, us, h1, h2, h3, h4, h5⟩ := h
  refine ⟨A, cap, us, h1, h2, h3, h4, fun k u hu => (h5 k u hu).congr fun j hj => he k j ?_ hj⟩
  have := (List.getElem?_eq_some_iff.1 hu).1
  have := h4.1
  omega
theorem EMat.form (h : EMat K w v n c M) : ∃ A c, v = .slice A n c ∧ n ≤ c ∧ c ≤ 9223372036854775807 := by
  obtain ⟨A, cap, us, h1, h2, h3, _⟩ := h
  exact ⟨A, cap, h1, h2, h3⟩
theorem EMat.nil_ (K : Bool) (w : World) (c : Nat) (M : Mx) : EMat K w (.slice none 0 0) 0 c M := ⟨none, 0, [], rfl, Nat.le_refl _, by omega, Reads.nil_, by simp⟩
theorem EMat.at_ {A : Option Addr} {m cp k : Nat} (h : EMat K w (.slice A m cp) n c M) (hk : k < n) :
    ∃ b o A' cp', A = some ⟨b, o, none⟩ ∧ b < w.heap.size ∧ w.cell? ⟨b, o + k, none⟩ = some (.slice A' c cp') ∧ EFs K w (.slice A' c cp') c (M k) := by
  obtain ⟨A0, cap, us, e, h2, h3, h4, h5⟩ := h
  injection e with e1 e2 e3
  subst e1
  obtain ⟨ad, u, rfl, hb, hu, hc⟩ := h4.at_ (k := k) hk
  obtain ⟨ad0, u0, e0, _, _, hc0⟩ := h4.at_ (k := 0) (by omega)
  injection e0 with e0
  subst e0
  obtain ⟨bb, o, sp⟩ := ad
  have hsp : sp = none := by have := Go.Proofs.Ytmfigiifflljpaa.cell_spotF hc0; simpa [Addr.add] using this
  subst hsp
  have ha : (⟨bb, o, none⟩ : Addr).add k = ⟨bb, o + k, none⟩ := by
    unfold Addr.add
    by_cases hj : k = 0 <;> simp [hj]
  rw [ha] at hc
  have hf := h5 k u hu
  obtain ⟨A', cp', rfl, _, _⟩ := hf.form
  exact ⟨bb, o, A', cp', rfl, hb, hc, hf⟩
end

/-! A matrix of the call's own, each row in memory of its own. -/
theorem fcells_cons (t : Fc) (ts : List Fc) : fcells (t :: ts) = .bool t.neg :: t.num :: t.den :: fcells ts := rfl
theorem fcells_set : ∀ (ts : List Fc) (j : Nat) (t : Fc), (((fcells ts).set (j * 3) (.bool t.neg)).set (j * 3 + 1) t.num).set (j * 3 + 2) t.den = fcells (ts.set j t)
  | [], j, t => by simp [fcells]
  | x :: ts, 0, t => by
    rw [List.set_cons_zero, fcells_cons, fcells_cons]
    rfl
  | x :: ts, j + 1, t => by
    rw [List.set_cons_succ, fcells_cons, fcells_cons, ← fcells_set ts j t, show (j + 1) * 3 = j * 3 + 1 + 1 + 1 from by omega]
    simp only [List.set_cons_succ]
/-- Apart from the list and from its rows. -/
def Avd (v : Value) (us : List Value) (x : Value) : Prop := Far x v ∧ ∀ u ∈ us, Far x u
theorem Avd.sub {v : Value} {us xs : List Value} {x : Value} (h : Avd v xs x) (hs : ∀ u ∈ us, u ∈ xs) : Avd v us x := ⟨h.1, fun u hu => h.2 u (hs u hu)⟩
structure MatO (K : Bool) (base : Nat) (w : World) (v : Value) (n c : Nat) (us xs : List Value) (M : Mx) : Prop where
  len : us.length = n
  own : w.ownsRow base 39 1 v n us
  row : ∀ (k : Nat) (u : Value), us[k]? = some u → ∃ ts, w.ownsRow base 34 3 u c (fcells ts) ∧ ts.length = c ∧ ∀ (j : Nat) (t : Fc), ts[j]? = some t → Ent K w t.neg t.num t.den (M k j) ∧ Avd v xs t.num ∧ Avd v xs t.den
  dis : ∀ (k l : Nat) (u u' : Value) (b : Nat), us[k]? = some u → us[l]? = some u' → u.ownBlock = some b → u'.ownBlock = some b → k = l
  out : ∀ u ∈ us, ∀ b, u.ownBlock = some b → v.ownBlock ≠ some b
  sub : ∀ u ∈ us, u ∈ xs
  xlt : ∀ u ∈ xs, ∀ b, u.ownBlock = some b → b < w.heap.size
section
variable {K : Bool} {base : Nat} {w w' w0 : World} {v : Value} {n c : Nat} {us xs : List Value} {M : Mx}
theorem grownBy_two {a b c : World} {row : Option Nat} (h : a.grownBy b row) (k : b.grownBy c row) : a.grownBy c row :=
  ⟨k.os.trans h.os, k.tape.trans h.tape, k.output.trans h.output, Nat.le_trans h.size k.size, fun i hi hne => (k.block i (Nat.lt_of_lt_of_le hi h.size) hne).trans (h.block i hi hne)⟩
theorem Ext.grownN (h : Ext w w') (row : Option Nat) : w.grownBy w' row := ⟨h.os, h.tape, h.output, h.size, fun k hk _ => h.block k hk⟩
theorem MatO.ext (h : MatO K base w v n c us xs M) (hE : Ext w w') : MatO K base w' v n c us xs M :=
  ⟨h.len, h.own.kept (Ext.grown hE) (by cases v.ownBlock <;> simp), fun k u hu => by
    obtain ⟨ts, h1, h2, h3⟩ := h.row k u hu
    exact ⟨ts, h1.kept (Ext.grown hE) (by cases u.ownBlock <;> simp), h2, fun j t ht => ⟨(h3 j t ht).1.below hE, (h3 j t ht).2⟩⟩, h.dis, h.out, h.sub, fun u hu b hb => Nat.lt_of_lt_of_le (h.xlt u hu b hb) hE.size⟩
theorem MatO.congr {M' : Mx} (h : MatO K base w v n c us xs M) (he : ∀ i j, i < n → j < c → M i j = M' i j) : MatO K base w v n c us xs M' :=
  ⟨h.len, h.own, fun k u hu => by
    obtain ⟨ts, h1, h2, h3⟩ := h.row k u hu
    refine ⟨ts, h1, h2, fun j t ht => ?_⟩
    rw [← he k j (by have := (List.getElem?_eq_some_iff.1 hu).1; have := h.len; omega) (by have := (List.getElem?_eq_some_iff.1 ht).1; omega)]
    exact h3 j t ht, h.dis, h.out, h.sub, h.xlt⟩
theorem MatO.lt (h : MatO K base w v n c us xs M) {b : Nat} (hb : v.ownBlock = some b ∨ ∃ u ∈ us, u.ownBlock = some b) : base ≤ b ∧ b < w.heap.size := by
  rcases hb with hb | ⟨u, hu, hb⟩
  · exact h.own.lt b hb
  · obtain ⟨k, hk⟩ := List.getElem?_of_mem hu
    obtain ⟨ts, h1, _⟩ := h.row k u hk
    exact h1.lt b hb
theorem MatO.avd (h : MatO K base w v n c us xs M) {x : Value} (hx : New w.heap.size x) : Avd v xs x :=
  ⟨Far.of_new hx fun g hg => (h.lt (.inl hg)).2, fun u hu => Far.of_new hx fun g hg => h.xlt u hu g hg⟩
theorem ownsRow_efs {u : Value} {ts : List Fc} {f : Nat → Rat} (h : w.ownsRow base 34 3 u c (fcells ts)) (hl : ts.length = c) (hf : ∀ (j : Nat) (t : Fc), ts[j]? = some t → Ent K w t.neg t.num t.den (f j)) : EFs K w u c f := by
  rcases h.2 with ⟨rfl, h0⟩ | ⟨g, cap, cur, rfl, _, _, hc, hm, _, _⟩
  · subst h0
    obtain rfl : ts = [] := List.eq_nil_of_length_eq_zero hl
    exact EFs.nil_ _ _ _
  · exact ⟨_, cap, ts, rfl, hc, hm, hl, Reads.of_own h, hf⟩
theorem MatO.mat (h : MatO K base w v n c us xs M) : EMat K w v n c M := by
  have hr : ∀ (k : Nat) (u : Value), us[k]? = some u → EFs K w u c (M k) := fun k u hu => by
    obtain ⟨ts, h1, h2, h3⟩ := h.row k u hu
    exact ownsRow_efs h1 h2 fun j t ht => (h3 j t ht).1
  have ho := h.own
  rcases ho.2 with ⟨rfl, h0⟩ | ⟨g, cap, cur, rfl, _, _, hc, hm, _, _⟩
  · subst h0
    exact EMat.nil_ _ _ _ _
  · exact ⟨_, cap, us, rfl, hc, hm, Reads.of_own ho, hr⟩
/-- A row, where the matrix has columns. -/
theorem MatO.row_at {k : Nat} (h : MatO K base w v n c us xs M) (hk : k < n) (hc : 0 < c) :
    ∃ gv cv gk ck, v = .slice (some ⟨gv, 0, none⟩) n cv ∧ us[k]? = some (.slice (some ⟨gk, 0, none⟩) c ck) ∧ w.cell? ⟨gv, k, none⟩ = some (.slice (some ⟨gk, 0, none⟩) c ck) ∧ w.frozen? ⟨gv, k, none⟩ = false ∧ gv < w.heap.size ∧ gk < w.heap.size ∧ gv ≠ gk ∧ base ≤ gv ∧ base ≤ gk := by
  obtain ⟨gv, cv, hv, hb1, hl1⟩ := h.own.form (by omega)
  obtain ⟨u, hu⟩ : ∃ u, us[k]? = some u := ⟨_, List.getElem?_eq_getElem (by rw [h.len]; exact hk)⟩
  obtain ⟨ts, h1, h2, h3⟩ := h.row k u hu
  obtain ⟨gk, ck, hu1, hb2, hl2⟩ := h1.form hc
  have ho := h.own
  have hne := h.out u (List.mem_of_getElem? hu) gk (by rw [hu1]; rfl)
  rw [hv] at ho hne
  rw [hu1] at hu
  refine ⟨gv, cv, gk, ck, hv, hu, (ho.cellAt k (by omega)).trans hu, ho.frozenAt k, hl1, hl2, fun e => hne (by rw [e]; rfl), hb1, hb2⟩
theorem MatO.row_of {k gv cv : Nat} (h : MatO K base w (.slice (some ⟨gv, 0, none⟩) n cv) n c us xs M) (hk : k < n) (hc : 0 < c) :
    ∃ gk ck, us[k]? = some (.slice (some ⟨gk, 0, none⟩) c ck) ∧ w.cell? ⟨gv, k, none⟩ = some (.slice (some ⟨gk, 0, none⟩) c ck) ∧ w.frozen? ⟨gv, k, none⟩ = false ∧ gv < w.heap.size ∧ gk < w.heap.size ∧ gv ≠ gk ∧ base ≤ gv ∧ base ≤ gk := by
  obtain ⟨gv', cv', gk, ck, hv, h1, h2, h3, h4, h5, h6, h7, h8⟩ := h.row_at hk hc
  obtain rfl : gv = gv' := by injection hv with h; injection h with h; injection h
  exact ⟨gk, ck, h1, h2, h3, h4, h5, h6, h7, h8⟩
/-- An entry. -/
theorem MatO.ent_at {k j gk ck : Nat} (h : MatO K base w v n c us xs M) (hu : us[k]? = some (.slice (some ⟨gk, 0, none⟩) c ck)) (hj : j < c) :
    ∃ neg A1 k1 c1 A2 k2 c2, w.cell? ⟨gk, j * 3, none⟩ = some (.bool neg) ∧ w.cell? ⟨gk, j * 3 + 1, none⟩ = some (.slice A1 k1 c1) ∧ w.cell? ⟨gk, j * 3 + 2, none⟩ = some (.slice A2 k2 c2) ∧
      w.frozen? ⟨gk, j * 3, none⟩ = false ∧ w.frozen? ⟨gk, j * 3 + 1, none⟩ = false ∧ w.frozen? ⟨gk, j * 3 + 2, none⟩ = false ∧ Ent K w neg (.slice A1 k1 c1) (.slice A2 k2 c2) (M k j) ∧ Avd v xs (.slice A1 k1 c1) ∧ Avd v xs (.slice A2 k2 c2) := by
  obtain ⟨ts, h1, h2, h3⟩ := h.row k _ hu
  obtain ⟨t, ht⟩ : ∃ t, ts[j]? = some t := ⟨_, List.getElem?_eq_getElem (by omega)⟩
  obtain ⟨c0, c1, c2⟩ := fcells_at ht
  obtain ⟨he, hv1, hv2⟩ := h3 j t ht
  obtain ⟨A1, k1, c1', A2, k2, c2', e1, e2⟩ := he.form
  rw [e1, e2] at he
  rw [e1] at hv1
  rw [e2] at hv2
  exact ⟨t.neg, A1, k1, c1', A2, k2, c2', (h1.cellAt _ (by omega)).trans c0, ((h1.cellAt _ (by omega)).trans c1).trans (by rw [e1]), ((h1.cellAt _ (by omega)).trans c2).trans (by rw [e2]), h1.frozenAt _, h1.frozenAt _, h1.frozenAt _, he, hv1, hv2⟩
/-- An entry is written. -/
theorem MatO.put {k j gk ck : Nat} {b : Bool} {s t : Value} {q : Rat} (h0 : MatO K base w0 v n c us xs M) (hE : Ext w0 w) (hu : us[k]? = some (.slice (some ⟨gk, 0, none⟩) c ck)) (hj : j < c) (he : Ent K w b s t q) (hs : New w0.heap.size s) (ht : New w0.heap.size t) :
    MatO K base (((w.setCell ⟨gk, j * 3, none⟩ (.bool b)).setCell ⟨gk, j * 3 + 1, none⟩ s).setCell ⟨gk, j * 3 + 2, none⟩ t) v n c us xs (fun i' j' => if i' = k ∧ j' = j then q else M i' j') := by
  have av := h0.avd hs
  have av' := h0.avd ht
  have h := h0.ext hE
  obtain ⟨ts, h1, h2, h3⟩ := h.row k _ hu
  obtain ⟨s1, g1⟩ := World.ownsRow.stored h1 (j * 3) (.bool b)
  obtain ⟨s2, g2⟩ := World.ownsRow.stored s1 (j * 3 + 1) s
  obtain ⟨s3, g3⟩ := World.ownsRow.stored s2 (j * 3 + 2) t
  rw [fcells_set ts j ⟨b, s, t⟩] at s3
  have hg := grownBy_two (grownBy_two g1 g2) g3
  clear g1 g2 g3 s1 s2
  generalize (((w.setCell ⟨gk, j * 3, none⟩ (.bool b)).setCell ⟨gk, j * 3 + 1, none⟩ s).setCell ⟨gk, j * 3 + 2, none⟩ t) = w' at *
  have hmu := List.mem_of_getElem? hu
  have hmem := h.sub _ hmu
  have hsz := hg.size
  refine ⟨h.len, h.own.kept hg (.inr fun e => h.out _ hmu gk rfl e), fun l u hul => ?_, h.dis, h.out, h.sub, fun u hu b hb => Nat.lt_of_lt_of_le (h.xlt u hu b hb) hsz⟩
  by_cases hlk : l = k
  · subst hlk
    rw [hu] at hul
    cases hul
    refine ⟨ts.set j ⟨b, s, t⟩, s3, by rw [List.length_set]; exact h2, fun j' t' ht' => ?_⟩
    by_cases hjj : j' = j
    · subst hjj
      rw [List.getElem?_set_self (by omega)] at ht'
      cases ht'
      rw [if_pos ⟨rfl, rfl⟩]
      exact ⟨he.kept (v := .slice (some ⟨gk, 0, none⟩) c ck) hg (av.2 _ hmem) (av'.2 _ hmem), av, av'⟩
    · rw [List.getElem?_set_ne (fun e => hjj e.symm)] at ht'
      rw [if_neg (fun e => hjj e.2)]
      obtain ⟨k1, k2, k3⟩ := h3 j' t' ht'
      exact ⟨k1.kept (v := .slice (some ⟨gk, 0, none⟩) c ck) hg (k2.2 _ hmem) (k3.2 _ hmem), k2, k3⟩
  · obtain ⟨ts', k1, k2, k3⟩ := h.row l u hul
    refine ⟨ts', k1.kept hg (.inr fun e => hlk (h.dis l k _ _ gk hul hu e rfl)), k2, fun j' t' ht' => ?_⟩
    rw [if_neg (fun e => hlk e.1)]
    obtain ⟨m1, m2, m3⟩ := k3 j' t' ht'
    exact ⟨m1.kept (v := .slice (some ⟨gk, 0, none⟩) c ck) hg (m2.2 _ hmem) (m3.2 _ hmem), m2, m3⟩
theorem put_ext {W : World} {gk j : Nat} (hE : Ext W w) (hb : W.heap.size ≤ gk) (x y z : Value) : Ext W (((w.setCell ⟨gk, j * 3, none⟩ x).setCell ⟨gk, j * 3 + 1, none⟩ y).setCell ⟨gk, j * 3 + 2, none⟩ z) :=
  ext_set (ext_set (ext_set hE hb _) hb _) hb _
/-- Two rows are exchanged. -/
theorem MatO.swap {k p gv cv : Nat} {uk up : Value} (h : MatO K base w v n c us xs M) (hv : v = .slice (some ⟨gv, 0, none⟩) n cv) (hk : us[k]? = some uk) (hp : us[p]? = some up) :
    MatO K base ((w.setCell ⟨gv, k, none⟩ up).setCell ⟨gv, p, none⟩ uk) v n c ((us.set k up).set p uk) xs (swp M k p) := by
  subst hv
  have ho := h.own
  obtain ⟨s1, g1⟩ := World.ownsRow.stored ho k up
  obtain ⟨s2, g2⟩ := World.ownsRow.stored s1 p uk
  have hg := grownBy_two g1 g2
  clear g1 g2 s1
  generalize ((w.setCell ⟨gv, k, none⟩ up).setCell ⟨gv, p, none⟩ uk) = w' at *
  have hkl := (List.getElem?_eq_some_iff.1 hk).1
  have hpl := (List.getElem?_eq_some_iff.1 hp).1
  have hsz := hg.size
  -- where each row of the new list stood
  have hat : ∀ l, l < us.length → ((us.set k up).set p uk)[l]? = us[if l = p then k else if l = k then p else l]? := fun l hl => by
    by_cases h1 : l = p
    · rw [if_pos h1, h1, List.getElem?_set_self (by rw [List.length_set]; exact hpl), hk]
    · rw [if_neg h1, List.getElem?_set_ne (fun e => h1 e.symm)]
      by_cases h2 : l = k
      · rw [if_pos h2, h2, List.getElem?_set_self hkl, hp]
      · rw [if_neg h2, List.getElem?_set_ne (fun e => h2 e.symm)]
  have hmem : ∀ u, u ∈ (us.set k up).set p uk → u ∈ us := fun u hu => by
    obtain ⟨l, hl⟩ := List.getElem?_of_mem hu
    have hll := (List.getElem?_eq_some_iff.1 hl).1
    rw [List.length_set, List.length_set] at hll
    rw [hat l hll] at hl
    exact List.mem_of_getElem? hl
  have hM : ∀ l j, swp M k p l j = M (if l = p then k else if l = k then p else l) j := fun l j => by
    rw [swp_at]
    grind
  refine ⟨by rw [List.length_set, List.length_set]; exact h.len, s2, fun l u hu => ?_, fun l l' u u' b hu hu' hb hb' => ?_, fun u hu => h.out u (hmem u hu), fun u hu => h.sub u (hmem u hu), fun u hu b hb => Nat.lt_of_lt_of_le (h.xlt u hu b hb) hsz⟩
  · have hll := (List.getElem?_eq_some_iff.1 hu).1
    rw [List.length_set, List.length_set] at hll
    rw [hat l hll] at hu
    obtain ⟨ts, h1, h2, h3⟩ := h.row _ u hu
    refine ⟨ts, h1.kept hg ?_, h2, fun j t ht => ?_⟩
    · cases hb : u.ownBlock with
      | none => exact .inl rfl
      | some b => exact .inr fun e => h.out u (List.mem_of_getElem? hu) b hb e.symm
    · obtain ⟨k1, k2, k3⟩ := h3 j t ht
      rw [hM]
      exact ⟨k1.kept (v := .slice (some ⟨gv, 0, none⟩) n cv) hg k2.1 k3.1, k2, k3⟩
  · have hll := (List.getElem?_eq_some_iff.1 hu).1
    have hll' := (List.getElem?_eq_some_iff.1 hu').1
    rw [List.length_set, List.length_set] at hll hll'
    rw [hat l hll] at hu
    rw [hat l' hll'] at hu'
    have := h.dis _ _ u u' b hu hu' hb hb'
    split at this <;> split at this <;> (try split at this) <;> (try split at this) <;> omega
theorem mem_swap {k p : Nat} {uk up u : Value} (hk : us[k]? = some uk) (hp : us[p]? = some up) (hu : u ∈ (us.set k up).set p uk) : u ∈ us := by
  rcases List.mem_or_eq_of_mem_set hu with h | h
  · rcases List.mem_or_eq_of_mem_set h with h | h
    · exact h
    · exact h ▸ List.mem_of_getElem? hp
  · exact h ▸ List.mem_of_getElem? hk
theorem swap_mem {k p : Nat} {uk up u : Value} (hk : us[k]? = some uk) (hp : us[p]? = some up) (hu : u ∈ us) : u ∈ (us.set k up).set p uk := by
  obtain ⟨l, hl⟩ := List.getElem?_of_mem hu
  have hkl := (List.getElem?_eq_some_iff.1 hk).1
  have hpl := (List.getElem?_eq_some_iff.1 hp).1
  by_cases h1 : l = k
  · subst h1
    rw [hk] at hl
    cases hl
    exact List.mem_of_getElem? (i := p) (List.getElem?_set_self (by rw [List.length_set]; exact hpl))
  · by_cases h2 : l = p
    · subst h2
      rw [hp] at hl
      cases hl
      exact List.mem_of_getElem? (i := k) ((List.getElem?_set_ne h1).trans (List.getElem?_set_self hkl))
    · exact List.mem_of_getElem? (i := l) ((List.getElem?_set_ne (fun e => h2 e.symm)).trans ((List.getElem?_set_ne (fun e => h1 e.symm)).trans hl))
/-- Between the two stores. -/
theorem MatO.mid {k p gv cv : Nat} (h : MatO K base w (.slice (some ⟨gv, 0, none⟩) n cv) n c us xs M) (hp : p < n) (x : Value) : ∃ u, (w.setCell ⟨gv, k, none⟩ x).cell? ⟨gv, p, none⟩ = some u ∧ (w.setCell ⟨gv, k, none⟩ x).frozen? ⟨gv, p, none⟩ = false := by
  obtain ⟨s1, _⟩ := World.ownsRow.stored h.own k x
  have hl := h.len
  obtain ⟨u, hu⟩ : ∃ u, (us.set k x)[p]? = some u := ⟨_, List.getElem?_eq_getElem (by rw [List.length_set]; omega)⟩
  exact ⟨u, (s1.cellAt p (by omega)).trans hu, s1.frozenAt p⟩
theorem swap_ext {W : World} {gv k p : Nat} (hE : Ext W w) (hb : W.heap.size ≤ gv) (x y : Value) : Ext W ((w.setCell ⟨gv, k, none⟩ x).setCell ⟨gv, p, none⟩ y) := ext_set (ext_set hE hb _) hb _
end

/-! It is built row by row. -/
section
variable {K : Bool} {base B : Nat} {w w' w1 : World} {v v' u : Value} {n c : Nat} {us : List Value} {M : Mx} {ts : List Fc} {f : Nat → Rat}
theorem MatO.nil_ (K : Bool) (base : Nat) (w : World) (c : Nat) (M : Mx) : MatO K base w (.slice none 0 0) 0 c [] [] M :=
  ⟨rfl, World.ownsRow_nil _ _ _ _, fun k u hu => by simp at hu, fun k l u u' b hu => by simp at hu, fun u hu => by simp at hu, fun u hu => hu, fun u hu => by simp at hu⟩
/-- A row that is made behind the matrix is put at its end. -/
theorem MatO.push (h : MatO K base w v n c us us M) (hB : base ≤ w.heap.size) (hE : Ext w w1) (hrow : w1.ownsRow w.heap.size 34 3 u c (fcells ts)) (hl : ts.length = c)
    (hf : ∀ (j : Nat) (t : Fc), ts[j]? = some t → Ent K w1 t.neg t.num t.den (M n j) ∧ (Far t.num u ∧ Far t.den u) ∧ Avd v us t.num ∧ Avd v us t.den)
    (hown : w'.ownsRow base 39 1 v' (n + 1) (us ++ [u])) (hg : w1.grownBy w' v.ownBlock) (hw : v'.ownBlock = v.ownBlock ∨ New w1.heap.size v') :
    MatO K base w' v' (n + 1) c (us ++ [u]) (us ++ [u]) M := by
  have h1 := h.ext hE
  have hlen := h.len
  -- what lies in w1 is apart from the list's new place if it was apart from its old one
  have far : ∀ {b : Bool} {s t : Value} {q : Rat}, Ent K w1 b s t q → Far s v → Far t v → Far s v' ∧ Far t v' := fun he hs ht => by
    rcases hw with hw | hw
    · exact ⟨hs.same hw, ht.same hw⟩
    · rcases he with he | ⟨_, a, d, ⟨xs, a1, _⟩, ⟨ys, a2, _⟩, _⟩
      · exact ⟨Far.new he.2.1 hw, Far.new he.2.2 hw⟩
      · exact ⟨Far.new a1 hw, Far.new a2 hw⟩
  have hub : ∀ b, u.ownBlock = some b → w.heap.size ≤ b ∧ b < w1.heap.size := fun b hb => hrow.lt b hb
  have hvb : ∀ b, v'.ownBlock = some b → (v.ownBlock = some b ∧ b < w.heap.size) ∨ w1.heap.size ≤ b := fun b hb => by
    rcases hw with hw | hw
    · rw [hw] at hb; exact .inl ⟨hb, (h.lt (.inl hb)).2⟩
    · exact .inr (hw b hb)
  have hus : ∀ x ∈ us, ∀ b, x.ownBlock = some b → b < w.heap.size := fun x hx b hb => (h.lt (.inr ⟨x, hx, hb⟩)).2
  have hkeep : ∀ {x : Value} {ys : List Value}, w1.ownsRow base 34 3 x c ys → (∀ b, x.ownBlock = some b → v.ownBlock ≠ some b) → w'.ownsRow base 34 3 x c ys := fun {x ys} hx hne => hx.kept hg (by
    cases hb : x.ownBlock with
    | none => exact .inl rfl
    | some b => exact .inr fun e => hne b hb e.symm)
  have hune : ∀ b, u.ownBlock = some b → v.ownBlock ≠ some b := fun b hb e => by
    have := hub b hb
    have := (h.lt (.inl e)).2
    omega
  have hget : ∀ k x, (us ++ [u])[k]? = some x → (k < n ∧ us[k]? = some x) ∨ (k = n ∧ x = u) := fun k x hx => by
    rcases Nat.lt_or_ge k us.length with hk | hk
    · rw [List.getElem?_append_left hk] at hx
      exact .inl ⟨by omega, hx⟩
    · rw [List.getElem?_append_right hk, List.getElem?_singleton] at hx
      split at hx
      · cases hx
        exact .inr ⟨by omega, rfl⟩
      · cases hx
  refine ⟨by rw [List.length_append, hlen]; rfl, hown, fun k x hx => ?_, fun k l x y b hx hy hb hb' => ?_, fun x hx b hb e => ?_, fun x hx => hx, fun x hx b hb => ?_⟩
  · rcases hget k x hx with ⟨hk, hx⟩ | ⟨rfl, rfl⟩
    · obtain ⟨ts', k1, k2, k3⟩ := h1.row k x hx
      obtain ⟨ts0, l1, l2, l3⟩ := h.row k x hx
      refine ⟨ts', hkeep k1 (h.out x (List.mem_of_getElem? hx)), k2, fun j t ht => ?_⟩
      obtain ⟨m1, m2, m3⟩ := k3 j t ht
      obtain ⟨e1, e2⟩ := far m1 m2.1 m3.1
      have hnu : New w.heap.size u := fun b hb => (hub b hb).1
      have hu2 : Far t.num u ∧ Far t.den u := by
        -- the entry stood already in the world w
        have hcell : ∀ b, x.ownBlock = some b → b < w.heap.size := hus x (List.mem_of_getElem? hx)
        have ets : fcells ts' = fcells ts0 := by
          rcases l1.2 with ⟨_, h0⟩ | ⟨g, cap, cur, hxe, _⟩
          · obtain rfl : ts' = [] := List.eq_nil_of_length_eq_zero (by omega)
            obtain rfl : ts0 = [] := List.eq_nil_of_length_eq_zero (by omega)
            rfl
          · subst hxe
            refine List.ext_getElem? fun i => ?_
            by_cases hi : i < c * 3
            · rw [← World.ownsRow.cellAt k1 i hi, ← World.ownsRow.cellAt l1 i hi]
              exact hE.cell (p := ⟨g, i, none⟩) (hcell g rfl)
            · rw [List.getElem?_eq_none (by rw [fcells_length]; omega), List.getElem?_eq_none (by rw [fcells_length]; omega)]
        obtain ⟨t0, ht0⟩ : ∃ t0, ts0[j]? = some t0 := ⟨_, List.getElem?_eq_getElem (by have := (List.getElem?_eq_some_iff.1 ht).1; omega)⟩
        have ec := fcells_at ht
        have ec0 := fcells_at ht0
        rw [ets] at ec
        have en : t.num = t0.num := Option.some.inj (ec.2.1.symm.trans ec0.2.1)
        have ed : t.den = t0.den := Option.some.inj (ec.2.2.symm.trans ec0.2.2)
        rw [en, ed]
        rcases (l3 j t0 ht0).1 with he | ⟨_, a, d, ⟨xs, a1, _⟩, ⟨ys, a2, _⟩, _⟩
        · exact ⟨Far.new he.2.1 hnu, Far.new he.2.2 hnu⟩
        · exact ⟨Far.new a1 hnu, Far.new a2 hnu⟩
      refine ⟨m1.kept hg m2.1 m3.1, ⟨e1, fun y hy => ?_⟩, ⟨e2, fun y hy => ?_⟩⟩
      · rcases List.mem_append.1 hy with hy | hy
        · exact m2.2 y hy
        · rw [List.mem_singleton.1 hy]; exact hu2.1
      · rcases List.mem_append.1 hy with hy | hy
        · exact m3.2 y hy
        · rw [List.mem_singleton.1 hy]; exact hu2.2
    · refine ⟨ts, hkeep (ownsRow_base hrow hB) hune, hl, fun j t ht => ?_⟩
      obtain ⟨m1, m0, m2, m3⟩ := hf j t ht
      obtain ⟨e1, e2⟩ := far m1 m2.1 m3.1
      refine ⟨m1.kept hg m2.1 m3.1, ⟨e1, fun y hy => ?_⟩, ⟨e2, fun y hy => ?_⟩⟩
      · rcases List.mem_append.1 hy with hy | hy
        · exact m2.2 y hy
        · rw [List.mem_singleton.1 hy]; exact m0.1
      · rcases List.mem_append.1 hy with hy | hy
        · exact m3.2 y hy
        · rw [List.mem_singleton.1 hy]; exact m0.2
  · rcases hget k x hx with ⟨hk, hx2⟩ | ⟨hk, hx2⟩
    · rcases hget l y hy with ⟨hl, hy2⟩ | ⟨hl, hy2⟩
      · exact h.dis k l x y b hx2 hy2 hb hb'
      · have := hus x (List.mem_of_getElem? hx2) b hb
        rw [hy2] at hb'
        have := hub b hb'
        omega
    · rcases hget l y hy with ⟨hl, hy2⟩ | ⟨hl, hy2⟩
      · have := hus y (List.mem_of_getElem? hy2) b hb'
        rw [hx2] at hb
        have := hub b hb
        omega
      · omega
  · have hs := hE.size
    rcases List.mem_append.1 hx with hx | hx
    · rcases hvb b e with ⟨e, _⟩ | e
      · exact h.out x hx b hb e
      · have := hus x hx b hb
        omega
    · rw [List.mem_singleton.1 hx] at hb
      have := hub b hb
      rcases hvb b e with ⟨_, e⟩ | e <;> omega
  · have hs := hE.size
    have hs2 := hg.size
    rcases List.mem_append.1 hx with hx | hx
    · have := hus x hx b hb
      omega
    · rw [List.mem_singleton.1 hx] at hb
      have := hub b hb
      omega
/-- The values that the entries are apart from. -/
theorem MatO.narrow {xs xs' : List Value} (h : MatO K base w v n c us xs M) (h1 : ∀ u ∈ us, u ∈ xs') (h2 : ∀ u ∈ xs', u ∈ xs) : MatO K base w v n c us xs' M :=
  ⟨h.len, h.own, fun k u hu => by
    obtain ⟨ts, k1, k2, k3⟩ := h.row k u hu
    exact ⟨ts, k1, k2, fun j t ht => ⟨(k3 j t ht).1, ⟨(k3 j t ht).2.1.1, fun x hx => (k3 j t ht).2.1.2 x (h2 x hx)⟩, ⟨(k3 j t ht).2.2.1, fun x hx => (k3 j t ht).2.2.2 x (h2 x hx)⟩⟩⟩, h.dis, h.out, h1, fun u hu => h.xlt u (h2 u hu)⟩
theorem MatO.more {xs : List Value} (h : MatO K base w v n c us xs M) : MatO K base w v n c us (.slice none 0 0 :: xs) M :=
  ⟨h.len, h.own, fun k u hu => by
    obtain ⟨ts, k1, k2, k3⟩ := h.row k u hu
    refine ⟨ts, k1, k2, fun j t ht => ⟨(k3 j t ht).1, ⟨(k3 j t ht).2.1.1, fun x hx => ?_⟩, ⟨(k3 j t ht).2.2.1, fun x hx => ?_⟩⟩⟩
    · rcases List.mem_cons.1 hx with rfl | hx
      · exact Far.nil_ _
      · exact (k3 j t ht).2.1.2 x hx
    · rcases List.mem_cons.1 hx with rfl | hx
      · exact Far.nil_ _
      · exact (k3 j t ht).2.2.2 x hx, h.dis, h.out, fun u hu => List.mem_cons_of_mem _ (h.sub u hu), fun u hu b hb => by
    rcases List.mem_cons.1 hu with rfl | hu
    · cases hb
    · exact h.xlt u hu b hb⟩
/-- Another list of the call's own grows. -/
theorem MatO.other {xs : List Value} {lv lv' : Value} (h : MatO K base w v n c us (lv :: xs) M) (hsub : ∀ u ∈ us, u ∈ xs) (hne : ∀ b, lv.ownBlock = some b → v.ownBlock ≠ some b ∧ ∀ u ∈ us, u.ownBlock ≠ some b) (hg : w.grownBy w' lv.ownBlock) (hw : lv'.ownBlock = lv.ownBlock ∨ New w.heap.size lv') (hlt : ∀ b, lv'.ownBlock = some b → b < w'.heap.size) : MatO K base w' v n c us (lv' :: xs) M := by
  have hsz := hg.size
  have hkeep : ∀ {x : Value} {e : TypeId} {sz m : Nat} {ys : List Value}, w.ownsRow base e sz x m ys → (∀ b, lv.ownBlock = some b → x.ownBlock ≠ some b) → w'.ownsRow base e sz x m ys := fun {x e sz m ys} hx hne => hx.kept hg (by
    cases hb : x.ownBlock with
    | none => exact .inl rfl
    | some b => exact .inr fun e => hne b e.symm hb)
  refine ⟨h.len, hkeep h.own fun b hb => (hne b hb).1, fun k u hu => ?_, h.dis, h.out, fun u hu => List.mem_cons_of_mem _ (hsub u hu), fun u hu b hb => ?_⟩
  · obtain ⟨ts, k1, k2, k3⟩ := h.row k u hu
    refine ⟨ts, hkeep k1 fun b hb => (hne b hb).2 u (List.mem_of_getElem? hu), k2, fun j t ht => ?_⟩
    obtain ⟨m1, m2, m3⟩ := k3 j t ht
    have hf : Far t.num lv' ∧ Far t.den lv' := by
      rcases hw with hw | hw
      · exact ⟨(m2.2 lv List.mem_cons_self).same hw, (m3.2 lv List.mem_cons_self).same hw⟩
      · rcases m1 with he | ⟨_, a, d, ⟨xs, a1, _⟩, ⟨ys, a2, _⟩, _⟩
        · exact ⟨Far.new he.2.1 hw, Far.new he.2.2 hw⟩
        · exact ⟨Far.new a1 hw, Far.new a2 hw⟩
    refine ⟨m1.kept hg (m2.2 lv List.mem_cons_self) (m3.2 lv List.mem_cons_self), ⟨m2.1, fun x hx => ?_⟩, ⟨m3.1, fun x hx => ?_⟩⟩
    · rcases List.mem_cons.1 hx with rfl | hx
      · exact hf.1
      · exact m2.2 x (List.mem_cons_of_mem _ hx)
    · rcases List.mem_cons.1 hx with rfl | hx
      · exact hf.2
      · exact m3.2 x (List.mem_cons_of_mem _ hx)
  · rcases List.mem_cons.1 hu with rfl | hu
    · exact hlt b hb
    · exact Nat.lt_of_lt_of_le (h.xlt u (List.mem_cons_of_mem _ hu) b hb) hsz
end

/-! What is apart from a matrix stays as it is. -/
def Fr (v : Value) (us : List Value) (W w' : World) : Prop := W.heap.size ≤ w'.heap.size ∧ ∀ k, k < W.heap.size → v.ownBlock ≠ some k → (∀ u ∈ us, u.ownBlock ≠ some k) → w'.heap[k]? = W.heap[k]?
def BlkLt (B : Nat) (v : Value) (us : List Value) : Prop := ∀ b, (v.ownBlock = some b ∨ ∃ u ∈ us, u.ownBlock = some b) → b < B
section
variable {K : Bool} {base B : Nat} {w w' W W' : World} {v : Value} {n c : Nat} {us us' xs : List Value} {M : Mx}
theorem Fr.refl (v : Value) (us : List Value) (W : World) : Fr v us W W := ⟨Nat.le_refl _, fun _ _ _ _ => rfl⟩
theorem Fr.trans (h : Fr v us W w) (h' : Fr v us w w') : Fr v us W w' := ⟨Nat.le_trans h.1 h'.1, fun k hk h1 h2 => (h'.2 k (Nat.lt_of_lt_of_le hk h.1) h1 h2).trans (h.2 k hk h1 h2)⟩
theorem Fr.of_ext (h : Ext W w) : Fr v us W w := ⟨h.size, fun k hk _ _ => h.block k hk⟩
theorem Fr.of_grown {g : Nat} (h : W.grownBy w (some g)) (hg : v.ownBlock = some g ∨ ∃ u ∈ us, u.ownBlock = some g) : Fr v us W w := ⟨h.size, fun k hk h1 h2 => h.block k hk fun e => by
  cases e
  rcases hg with hg | ⟨u, hu, hg⟩
  · exact h1 hg
  · exact h2 u hu hg⟩
theorem setCell_grown (w : World) (g j : Nat) (u : Value) : w.grownBy (w.setCell ⟨g, j, none⟩ u) (some g) :=
  ⟨rfl, rfl, rfl, by simp, fun k _ hk => heap_setCell_other w ⟨g, j, none⟩ k u (fun e => hk (by simp [e]))⟩
theorem Fr.put {gk ck k : Nat} (h : Fr v us W w) (hu : us[k]? = some (.slice (some ⟨gk, 0, none⟩) c ck)) (j : Nat) (x y z : Value) : Fr v us W (((w.setCell ⟨gk, j * 3, none⟩ x).setCell ⟨gk, j * 3 + 1, none⟩ y).setCell ⟨gk, j * 3 + 2, none⟩ z) :=
  h.trans (Fr.of_grown (grownBy_two (grownBy_two (setCell_grown _ _ _ _) (setCell_grown _ _ _ _)) (setCell_grown _ _ _ _)) (.inr ⟨_, List.mem_of_getElem? hu, rfl⟩))
theorem Fr.swap {gv cv : Nat} (h : Fr v us W w) (hv : v = .slice (some ⟨gv, 0, none⟩) n cv) (k p : Nat) (x y : Value) : Fr v us W ((w.setCell ⟨gv, k, none⟩ x).setCell ⟨gv, p, none⟩ y) :=
  h.trans (Fr.of_grown (grownBy_two (setCell_grown _ _ _ _) (setCell_grown _ _ _ _)) (.inl (by rw [hv]; rfl)))
theorem Fr.sub (h : Fr v us W w) (hs : ∀ u ∈ us, u ∈ us') : Fr v us' W w := ⟨h.1, fun k hk h1 h2 => h.2 k hk h1 fun u hu => h2 u (hs u hu)⟩
theorem BlkLt.not (h : BlkLt B v us) {b : Nat} (hb : B ≤ b) : v.ownBlock ≠ some b ∧ ∀ u ∈ us, u.ownBlock ≠ some b :=
  ⟨fun e => by have := h b (.inl e); omega, fun u hu e => by have := h b (.inr ⟨u, hu, e⟩); omega⟩
theorem MatO.blk (h : MatO K base w v n c us xs M) : BlkLt w.heap.size v us := fun b hb => (h.lt hb).2
theorem BlkLt.mono {B' : Nat} (h : BlkLt B v us) (hB : B ≤ B') : BlkLt B' v us := fun b hb => Nat.lt_of_lt_of_le (h b hb) hB
theorem BlkLt.sub (h : BlkLt B v us) (hs : ∀ u ∈ us', u ∈ us) : BlkLt B v us' := fun b hb => h b (hb.imp id fun ⟨u, hu, e⟩ => ⟨u, hs u hu, e⟩)
theorem BlkLt.avd (h : BlkLt B v us) {x : Value} (hx : New B x) : Avd v us x := ⟨Far.of_new hx fun g hg => h g (.inl hg), fun u hu => Far.of_new hx fun g hg => h g (.inr ⟨u, hu, hg⟩)⟩
theorem FBox.fr {b : Nat} {x y z : Value} (h : FBox W b x y z) (hf : Fr v us W w) (hb : v.ownBlock ≠ some b ∧ ∀ u ∈ us, u.ownBlock ≠ some b) : FBox w b x y z := by
  have e : ∀ o, w.cell? ⟨b, o, none⟩ = W.cell? ⟨b, o, none⟩ := fun o => World.cell?_of_block (hf.2 b h.lt hb.1 hb.2)
  have e' : ∀ o, w.frozen? ⟨b, o, none⟩ = W.frozen? ⟨b, o, none⟩ := fun o => World.frozen?_of_block (hf.2 b h.lt hb.1 hb.2)
  obtain ⟨h1, h2, h3, h4, h5, h6⟩ := h
  exact ⟨(e 0).trans h1, (e 1).trans h2, (e 2).trans h3, (e' 0).trans h4, (e' 1).trans h5, (e' 2).trans h6⟩
theorem U32s.fr {x : Value} {xs : List Nat} (h : U32s W x xs) (hf : Fr v us W w) (hx : Avd v us x) : U32s w x xs := by
  obtain ⟨A, cap, rfl, h2, h3, h4, h5⟩ := h
  refine ⟨A, cap, rfl, h2, h3, h4, fun hn => ?_⟩
  obtain ⟨ad, rfl, hb, hc⟩ := h5 hn
  obtain ⟨m, hm⟩ : ∃ m, xs.length = m + 1 := ⟨xs.length - 1, by omega⟩
  rw [hm] at hx
  refine ⟨ad, rfl, Nat.lt_of_lt_of_le hb hf.1, fun j u hu => (World.cell?_of_block (a := ad.add j) ?_).trans (hc j u hu)⟩
  rw [block_of_add]
  exact hf.2 _ hb (fun e => hx.1 ad m cap _ rfl e rfl) fun u hu e => hx.2 u hu ad m cap _ rfl e rfl
theorem Ent.fr {b : Bool} {s t : Value} {q : Rat} (h : Ent K W b s t q) (hf : Fr v us W w) (hs : Avd v us s) (ht : Avd v us t) : Ent K w b s t q := by
  rcases h with h | ⟨h0, n, d, ⟨xs, a1, a2⟩, ⟨ys, b1, b2⟩, h3⟩
  · exact .inl ⟨h.1, U32s.fr h.2.1 hf hs, U32s.fr h.2.2 hf ht⟩
  · exact .inr ⟨h0, n, d, ⟨xs, a1.fr hf hs, a2⟩, ⟨ys, b1.fr hf ht, b2⟩, h3⟩
theorem ownsRow_fr {e : TypeId} {size m : Nat} {x : Value} {xs : List Value} {bs : Nat} (h : W.ownsRow bs e size x m xs) (hf : Fr v us W w) (hx : ∀ b, x.ownBlock = some b → v.ownBlock ≠ some b ∧ ∀ u ∈ us, u.ownBlock ≠ some b) : w.ownsRow bs e size x m xs := by
  refine ⟨h.1, ?_⟩
  rcases h.2 with hn | ⟨g, cap, cur, rfl, hb, hgg, rest⟩
  · exact .inl hn
  · refine .inr ⟨g, cap, cur, rfl, hb, ?_, rest⟩
    rw [hf.2 g (Array.getElem?_eq_some_iff.1 hgg).1 (hx g rfl).1 (hx g rfl).2]
    exact hgg
end

/-! How many limbs the numbers of a reduced form have. -/
def FBm (M : Mx) (n c L : Nat) : Prop := ∀ i j, i < n → j < c → FB (M i j) L
theorem FBm.mono {M : Mx} {n c L L' : Nat} (h : FBm M n c L) (hl : L ≤ L') : FBm M n c L' := fun i j hi hj => (h i j hi hj).mono hl
theorem fbm_swp {M : Mx} {n c L k p : Nat} (h : FBm M n c L) (hk : k < n) (hp : p < n) : FBm (swp M k p) n c L := fun i j hi hj => by
  rw [swp_at]
  split
  · exact h p j hp hj
  · split
    · exact h k j hk hj
    · exact h i j hi hj
theorem fbm_scl {M : Mx} {n C L k c : Nat} (h : FBm M n C L) (hL : 1 ≤ L) (hk : k < n) (hc : c < C) : FBm (scl M k c) n C (2 * L) := fun i j hi hj => by
  rw [scl_at]
  split
  · exact (FB.div (h k j hk hj) (h k c hk hc) hL hL).mono (by omega)
  · exact (h i j hi hj).mono (by omega)
theorem fbm_step {s : Rd} {n C L c : Nat} (h : FBm s.m n C L) (hL : 1 ≤ L) (hl : s.leads.length ≤ n) (hc : c < C) : FBm (stepR s n c).m n C (7 * L) := by
  obtain ⟨⟨a1, a2⟩, a3, a4⟩ := piv_spec s.m (n := n) (c := c) (k := s.leads.length) hl
  by_cases hp : piv s.m n c s.leads.length = n
  · rw [stepR_no hp]
    exact h.mono (by omega)
  · rw [stepR_yes hp]
    have h2 := fbm_scl (fbm_swp h (show s.leads.length < n by omega) (show piv s.m n c s.leads.length < n by omega)) hL (show s.leads.length < n by omega) hc
    intro i j hi hj
    show FB (elm _ _ _ i j) _
    rw [elm_at]
    split
    · exact (h2 _ j (by omega) hj).mono (by omega)
    · exact (FB.sub (h2 i j hi hj) (FB.mul (h2 i c hi hc) (h2 _ j (by omega) hj) (by omega)) (by omega)).mono (by omega)
theorem fbm_rrefs {M : Mx} {n C L : Nat} (h : FBm M n C L) (hL : 1 ≤ L) : ∀ c, c ≤ C → FBm (rrefs M n c).m n C (7 ^ c * L)
  | 0, _ => by rw [Nat.pow_zero, Nat.one_mul]; exact h
  | c + 1, hc => by
    have h1 := fbm_step (fbm_rrefs h hL c (by omega)) (Nat.le_trans hL (Nat.le_mul_of_pos_left L (Nat.pow_pos (by decide)))) (ech M n c).len (show c < C by omega)
    rw [show 7 ^ (c + 1) * L = 7 * (7 ^ c * L) from by rw [Nat.pow_succ, Nat.mul_comm (7 ^ c) 7, Nat.mul_assoc]]
    exact h1
theorem pow7_le {c L : Nat} (hc : c ≤ 9) (hL : L ≤ 1000) : 7 ^ c * L ≤ 40353607000 := by
  have h1 : 7 ^ c ≤ 7 ^ 9 := Nat.pow_le_pow_right (by decide) hc
  have h2 := Nat.mul_le_mul h1 hL
  exact h2

end Go.Proofs.Ytmfigiifflljpaa
