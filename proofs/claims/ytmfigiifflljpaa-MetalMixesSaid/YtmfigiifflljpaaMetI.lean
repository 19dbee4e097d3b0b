/- metal: matrices and lists of fractions that came in; Small, Few. -/
import Derived.Test.YtmfigiifflljpaaMetA
import Derived.Test.YtmfigiifflljpaaOpn
import Derived.Test.YtmfigiifflljpaaRCmp
set_option linter.unusedVariables false
set_option linter.unusedSimpArgs false
set_option maxRecDepth 100000
namespace Go.Proofs.Ytmfigiifflljpaa
open Go.RowKit Num Go.ChangeShapes Go.Deep

/-- A fraction's cells, as they came in. -/
def InC (w : World) (t : Fc) (z : FracIn) : Prop := t.neg = z.neg ∧ KLimbs w t.num z.nl z.nv ∧ KLimbs w t.den z.dl z.dv
theorem InC.below {w w' : World} {t : Fc} {z : FracIn} (h : InC w t z) (hE : Ext w w') : InC w' t z := ⟨h.1, h.2.1.below hE, h.2.2.below hE⟩
def InFs (w : World) (v : Value) (n : Nat) (F : Nat → FracIn) : Prop :=
  ∃ A cap ts, v = .slice A n cap ∧ n ≤ cap ∧ cap ≤ 9223372036854775807 ∧ ts.length = n ∧ Reads w 3 A n (fcells ts) ∧ ∀ (k : Nat) (t : Fc), ts[k]? = some t → InC w t (F k)
def InMat (w : World) (v : Value) (n : Nat) (len : Nat → Nat) (F : Nat → Nat → FracIn) : Prop :=
  ∃ A cap us, v = .slice A n cap ∧ n ≤ cap ∧ cap ≤ 9223372036854775807 ∧ Reads w 1 A n us ∧ ∀ (k : Nat) (u : Value), us[k]? = some u → InFs w u (len k) (F k)
section
variable {w w' : World} {v : Value} {n : Nat} {F : Nat → FracIn} {len : Nat → Nat} {G : Nat → Nat → FracIn}
theorem InFs.below (h : InFs w v n F) (hE : Ext w w') : InFs w' v n F := by
  obtain ⟨A, cap, ts, h1, h2, h3, h4, h5, h6⟩ := h
  exact ⟨A, cap, ts, h1, h2, h3, h4, h5.below hE, fun k t ht => (h6 k t ht).below hE⟩
theorem InMat.below (h : InMat w v n len G) (hE : Ext w w') : InMat w' v n len G := by
  obtain ⟨A, cap, us, h1, h2, h3, h4, h5⟩ := h
  exact ⟨A, cap, us, h1, h2, h3, h4.below hE, fun k u hu => (h5 k u hu).below hE⟩
theorem InFs.form (h : InFs w v n F) : ∃ A c, v = .slice A n c ∧ n ≤ c ∧ c ≤ 9223372036854775807 := by
  obtain ⟨A, cap, ts, h1, h2, h3, _⟩ := h
  exact ⟨A, cap, h1, h2, h3⟩
theorem InMat.form (h : InMat w v n len G) : ∃ A c, v = .slice A n c ∧ n ≤ c ∧ c ≤ 9223372036854775807 := by
  obtain ⟨A, cap, us, h1, h2, h3, _⟩ := h
  exact ⟨A, cap, h1, h2, h3⟩
theorem InFs.at_ {A : Option Addr} {m cp k : Nat} (h : InFs w (.slice A m cp) n F) (hk : k < n) :
    ∃ b o A1 c1 A2 c2, A = some ⟨b, o, none⟩ ∧ b < w.heap.size ∧ w.cell? ⟨b, o + k * 3, none⟩ = some (.bool (F k).neg) ∧ w.cell? ⟨b, o + k * 3 + 1, none⟩ = some (.slice A1 (F k).nl c1) ∧ w.cell? ⟨b, o + k * 3 + 2, none⟩ = some (.slice A2 (F k).dl c2) := by
  obtain ⟨A0, cap, ts, e, h2, h3, h4, h5, h6⟩ := h
  injection e with e1 e2 e3
  subst e1
  obtain ⟨ad, rfl, hb, hc⟩ := h5.2 (by omega)
  obtain ⟨t, ht⟩ : ∃ t, ts[k]? = some t := ⟨_, List.getElem?_eq_getElem (by omega)⟩
  obtain ⟨t0, ht0⟩ : ∃ t, ts[0]? = some t := ⟨_, List.getElem?_eq_getElem (by omega)⟩
  have gz := hc 0 _ (fcells_at ht0).1
  obtain ⟨c0, c1, c2⟩ := fcells_at ht
  obtain ⟨f0, f1, f2⟩ := h6 k t ht
  have g0 := hc _ _ c0
  have g1 := hc _ _ c1
  have g2 := hc _ _ c2
  obtain ⟨A1, c1', e1⟩ := f1.form
  obtain ⟨A2, c2', e2⟩ := f2.form
  rw [f0] at g0
  rw [e1] at g1
  rw [e2] at g2
  obtain ⟨bb, o, sp⟩ := ad
  have hsp : sp = none := by have := Go.Proofs.Ytmfigiifflljpaa.cell_spotF gz; simpa [Addr.add] using this
  subst hsp
  have ha : ∀ j, (⟨bb, o, none⟩ : Addr).add j = ⟨bb, o + j, none⟩ := fun j => by
    unfold Addr.add
    by_cases hj : j = 0 <;> simp [hj]
  rw [ha] at g0 g1 g2
  exact ⟨bb, o, A1, c1', A2, c2', rfl, hb, g0, g1, g2⟩
/-- The lengths of the rows. -/
def lensOf (n : Nat) (len : Nat → Nat) : List Nat := (List.range n).map len
theorem lensOf_at {k : Nat} (hk : k < n) : (lensOf n len)[k]? = some (len k) := by
  unfold lensOf
  rw [List.getElem?_map, List.getElem?_range hk]
  rfl
theorem lensOf_length : (lensOf n len).length = n := by unfold lensOf; simp
theorem InMat.lens (h : InMat w v n len G) : LMat w v (lensOf n len) := by
  obtain ⟨A, cap, us, h1, h2, h3, h4, h5⟩ := h
  refine ⟨A, cap, us, by rw [lensOf_length]; exact h1, by rw [lensOf_length]; exact h2, h3, by rw [lensOf_length]; exact h4, fun k u l hu hl => ?_⟩
  have hk : k < n := by
    have h6 := (List.getElem?_eq_some_iff.1 hu).1
    have h7 := h4.1
    omega
  rw [lensOf_at hk] at hl
  cases hl
  exact (h5 k u hu).form
end

def fxQ (z : FracIn) : Rat := frac z.neg z.nv z.dv
/-- Few numbers, of one limb at most. -/
def smallF (n : Nat) (F : Nat → FracIn) : Prop := n ≤ 20 ∧ ∀ k, k < n → (F k).nl ≤ 1 ∧ (F k).dl ≤ 1
theorem InFs.efs {w : World} {v : Value} {n : Nat} {F : Nat → FracIn} (h : InFs w v n F) (hs : ∀ k, k < n → (F k).nl ≤ 1 ∧ (F k).dl ≤ 1) : EFs false w v n (fun k => fxQ (F k)) ∧ ∀ k, k < n → FB (fxQ (F k)) 3 := by
  obtain ⟨A, cap, ts, h1, h2, h3, h4, h5, h6⟩ := h
  have ha : ∀ (k : Nat) (t : Fc), ts[k]? = some t → AnyF w t.neg t.num t.den (fxQ (F k)) 3 := fun k t ht => by
    have hk : k < n := by have := (List.getElem?_eq_some_iff.1 ht).1; omega
    obtain ⟨f0, f1, f2⟩ := h6 k t ht
    rw [f0]
    exact (KFrac.any f1 f2 (hs k hk).1 (hs k hk).2 (by omega)).mono (by omega)
  refine ⟨⟨A, cap, ts, h1, h2, h3, h4, h5, fun k t ht => .inr ⟨rfl, ha k t ht⟩⟩, fun k hk => ?_⟩
  obtain ⟨t, ht⟩ : ∃ t, ts[k]? = some t := ⟨_, List.getElem?_eq_getElem (by omega)⟩
  exact (ha k t ht).fbR (by omega)
theorem InMat.emat {w : World} {v : Value} {n c : Nat} {len : Nat → Nat} {F : Nat → Nat → FracIn} (h : InMat w v n len F) (hc : ∀ i, i < n → len i = c) (hs : ∀ i, i < n → smallF (len i) (F i)) : EMat false w v n c (fun i j => fxQ (F i j)) ∧ FBm (fun i j => fxQ (F i j)) n c 3 := by
  obtain ⟨A, cap, us, h1, h2, h3, h4, h5⟩ := h
  have hk : ∀ (k : Nat) (u : Value), us[k]? = some u → k < n := fun k u hu => by
    have h6 := (List.getElem?_eq_some_iff.1 hu).1
    have h7 := h4.1
    omega
  refine ⟨⟨A, cap, us, h1, h2, h3, h4, fun k u hu => ?_⟩, fun i j hi hj => ?_⟩
  · have := ((h5 k u hu).efs (hs k (hk k u hu)).2).1
    rw [hc k (hk k u hu)] at this
    exact this
  · obtain ⟨u, hu⟩ : ∃ u, us[i]? = some u := ⟨_, List.getElem?_eq_getElem (by have := h4.1; omega)⟩
    exact ((h5 i u hu).efs (hs i hi).2).2 j (by rw [hc i hi]; exact hj)

section
variable {H : Type} {enc : TypeId × Value → H} {W : World} {spare : Nat → Bool} {held : Bool}
set_option maxRecDepth 100000 in
theorem cell_frac {fuel : Nat} {a : Addr} {cs : List Value} {x : DataW H × List MemPlace} (hc : W.cells? 0 a 3 = some cs) (h : DataW.trod enc Try.prog W 0 spare held fuel 34 cs = some x) : ∃ z : Fc × FracIn, InC W z.1 z.2 ∧ ∀ j u, ([Value.bool z.1.neg, z.1.num, z.1.den])[j]? = some u → W.cell? (a.add j) = some u := by
  obtain ⟨_, hcl, hat⟩ := World.cells?_some hc
  obtain ⟨xs, n, _, hx, _, hlen, hg⟩ := DataW.trod_struct Try.underlying34 h
  match cs, hcl, xs, hlen with
  | [c0, c1, c2], _, [y0, y1, y2], _ =>
    have e0 : DataW.trod enc Try.prog W 0 spare held n 4 [c0] = some y0 := hg 0 _ rfl
    have e1 : DataW.trod enc Try.prog W 0 spare held n 32 [c1] = some y1 := hg 1 _ rfl
    have e2 : DataW.trod enc Try.prog W 0 spare held n 32 [c2] = some y2 := hg 2 _ rfl
    obtain ⟨b0, hb, _⟩ := DataW.trod_bool Try.underlying4 e0
    obtain ⟨m, k, h1⟩ := cell_nat e1
    obtain ⟨m', k', h2⟩ := cell_nat e2
    have hb' : c0 = .bool b0 := by simpa using hb
    subst hb'
    refine ⟨⟨⟨b0, c1, c2⟩, ⟨b0, m, k, m', k'⟩⟩, ⟨rfl, h1, h2⟩, fun j u hu => ?_⟩
    have hj : j < 3 := (List.getElem?_eq_some_iff.1 hu).1
    exact (hat j hj).trans hu
theorem row_fracs {fuel : Nat} {cs : List Value} {x : DataW H × List MemPlace} (hf : DataW.trod enc Try.prog W 0 spare held fuel 39 cs = some x) : ∃ v, cs = [v] ∧ ∃ z : Nat × (Nat → FracIn), InFs W v z.1 z.2 := by
  have c3 : Try.prog.cellsOf 34 = 3 := by kernel_rfl
  rcases open_slice Try.underlying39 hf with ⟨hcs, _⟩ | ⟨a, len, cap, m, n, D, Pl, hcs, _, hl, hm, hmm, _, hi⟩
  · exact ⟨_, hcs, ⟨0, fun _ => ⟨false, 0, 0, 0, 0⟩⟩, none, 0, [], rfl, Nat.le_refl _, by omega, rfl, Reads.nil_, by simp⟩
  · have hml : len ≤ m := by rw [hmm]; split <;> omega
    have hsp : ∀ i, i < len → ∃ z : Fc × FracIn, InC W z.1 z.2 ∧ ∀ j u, ([Value.bool z.1.neg, z.1.num, z.1.den])[j]? = some u → W.cell? ((a.add (i * 3)).add j) = some u := fun i hil => by
      obtain ⟨cs', hc, ht'⟩ := hi i (by omega)
      rw [c3] at hc
      exact cell_frac hc ht'
    obtain ⟨f, hfs⟩ : ∃ f : Nat → Fc × FracIn, ∀ i, i < len → InC W (f i).1 (f i).2 ∧ ∀ j u, ([Value.bool (f i).1.neg, (f i).1.num, (f i).1.den])[j]? = some u → W.cell? ((a.add (i * 3)).add j) = some u :=
      ⟨fun i => if hh : i < len then Classical.choose (hsp i hh) else ⟨⟨false, .slice none 0 0, .slice none 0 0⟩, ⟨false, 0, 0, 0, 0⟩⟩, fun i hil => by
        simp only [dif_pos hil]
        exact Classical.choose_spec (hsp i hil)⟩
    have hlen : ((List.range len).map fun i => (f i).1).length = len := by simp
    refine ⟨_, hcs, ⟨len, fun i => (f i).2⟩, some a, cap, (List.range len).map fun i => (f i).1, rfl, hl, hm, hlen, ⟨by rw [fcells_length, hlen], fun hpos => ?_⟩, fun k t ht => ?_⟩
    · refine ⟨a, rfl, ?_, fun j u hu => ?_⟩
      · have h0 := (hfs 0 hpos).2 0 _ rfl
        have h1 := World.block_lt_of_cell? _ _ h0
        rw [block_of_add, block_of_add] at h1
        exact h1
      · have hj : j < len * 3 := by
          have := (List.getElem?_eq_some_iff.1 hu).1
          rw [fcells_length, hlen] at this
          exact this
        have hk : j / 3 < len := by omega
        have hat : ((List.range len).map fun i => (f i).1)[j / 3]? = some (f (j / 3)).1 := by rw [List.getElem?_map, List.getElem?_range hk]; rfl
        obtain ⟨c0, c1, c2⟩ := fcells_at hat
        have h3 : j % 3 = 0 ∨ j % 3 = 1 ∨ j % 3 = 2 := by omega
        have hfin : ∀ r, r < 3 → j = j / 3 * 3 + r → ([Value.bool (f (j / 3)).1.neg, (f (j / 3)).1.num, (f (j / 3)).1.den])[r]? = some u → W.cell? (a.add j) = some u := fun r _ hjr hr => by
          have h2 := (hfs _ hk).2 _ _ hr
          rw [Go.Deep.add_add, ← hjr] at h2
          exact h2
        rcases h3 with h | h | h
        · have e : j = j / 3 * 3 + 0 := by omega
          rw [Nat.add_zero] at e
          refine hfin 0 (by omega) (by omega) ?_
          rw [e, c0] at hu
          exact hu
        · have e : j = j / 3 * 3 + 1 := by omega
          refine hfin 1 (by omega) e ?_
          rw [e, c1] at hu
          exact hu
        · have e : j = j / 3 * 3 + 2 := by omega
          refine hfin 2 (by omega) e ?_
          rw [e, c2] at hu
          exact hu
    · rw [List.getElem?_map] at ht
      obtain ⟨i, hi', e⟩ := Option.map_eq_some_iff.1 ht
      have hil := List.mem_range.1 (List.mem_of_getElem? hi')
      have hik : i = k := by
        have hk : k < len := by have := (List.getElem?_eq_some_iff.1 hi').1; simpa using this
        rw [List.getElem?_range hk] at hi'
        exact (Option.some.inj hi').symm
      subst e hik
      exact (hfs i hil).1
theorem opened_fracs {v : Value} {d : DataW H} {ps : List MemPlace} {r : Reach} {b : Nat} (hval : Value.okWide Try.prog W r b 39 v) (h : DataW.Trod enc Try.prog W 0 spare held 39 v d ps) : ∃ z : Nat × (Nat → FracIn), InFs W v z.1 z.2 := by
  obtain ⟨a0, len0, cap0, rfl⟩ := WideShapes.okWide_slice Try.underlying39 hval
  obtain ⟨fuel, hf⟩ := h
  obtain ⟨v, e, z, hz⟩ := row_fracs hf
  have e1 : Value.slice a0 len0 cap0 = v := by simpa [Value.cells] using e
  rw [e1]
  exact ⟨z, hz⟩
theorem opened_mat {v : Value} {d : DataW H} {ps : List MemPlace} {r : Reach} {b : Nat} (hval : Value.okWide Try.prog W r b 22 v) (h : DataW.Trod enc Try.prog W 0 spare held 22 v d ps) : ∃ z : Nat × (Nat → Nat) × (Nat → Nat → FracIn), InMat W v z.1 z.2.1 z.2.2 := by
  obtain ⟨a0, len0, cap0, rfl⟩ := WideShapes.okWide_slice Try.underlying22 hval
  obtain ⟨fuel, hf⟩ := h
  have c1 : Try.prog.cellsOf 39 = 1 := by kernel_rfl
  rcases open_slice Try.underlying22 hf with ⟨hcs, _⟩ | ⟨a, len, cap, m, n, D, Pl, hcs, _, hl, hm, hmm, _, hi⟩
  · have e : Value.slice a0 len0 cap0 = .slice none 0 0 := by simpa [Value.cells] using hcs
    rw [e]
    exact ⟨⟨0, fun _ => 0, fun _ _ => ⟨false, 0, 0, 0, 0⟩⟩, none, 0, [], rfl, Nat.le_refl _, by omega, Reads.nil_, by simp⟩
  · have e : Value.slice a0 len0 cap0 = .slice (some a) len cap := by simpa [Value.cells] using hcs
    rw [e]
    have hml : len ≤ m := by rw [hmm]; split <;> omega
    have hsp : ∀ i, i < len → ∃ z : Value × Nat × (Nat → FracIn), InFs W z.1 z.2.1 z.2.2 ∧ W.cell? (a.add i) = some z.1 := fun i hil => by
      obtain ⟨cs', hc, ht'⟩ := hi i (by omega)
      rw [c1, Nat.mul_one] at hc
      obtain ⟨v, e, z, hz⟩ := row_fracs ht'
      obtain ⟨_, hcl, hat⟩ := World.cells?_some hc
      refine ⟨⟨v, z.1, z.2⟩, hz, ?_⟩
      have h0 := hat 0 (by omega)
      rw [add_nought, e] at h0
      exact h0
    obtain ⟨f, hfs⟩ : ∃ f : Nat → Value × Nat × (Nat → FracIn), ∀ i, i < len → InFs W (f i).1 (f i).2.1 (f i).2.2 ∧ W.cell? (a.add i) = some (f i).1 :=
      ⟨fun i => if hh : i < len then Classical.choose (hsp i hh) else ⟨.slice none 0 0, 0, fun _ => ⟨false, 0, 0, 0, 0⟩⟩, fun i hil => by
        simp only [dif_pos hil]
        exact Classical.choose_spec (hsp i hil)⟩
    have hat : ∀ k u, ((List.range len).map fun i => (f i).1)[k]? = some u → k < len ∧ u = (f k).1 := fun k u hu => by
      have hk : k < len := by have := (List.getElem?_eq_some_iff.1 hu).1; simpa using this
      rw [List.getElem?_map, List.getElem?_range hk] at hu
      exact ⟨hk, (Option.some.inj hu).symm⟩
    refine ⟨⟨len, fun i => (f i).2.1, fun i => (f i).2.2⟩, some a, cap, (List.range len).map fun i => (f i).1, rfl, hl, hm, ⟨by simp, fun hpos => ⟨a, rfl, ?_, fun j u hu => ?_⟩⟩, fun k u hu => ?_⟩
    · have h1 := World.block_lt_of_cell? _ _ (hfs 0 hpos).2
      rw [block_of_add] at h1
      exact h1
    · obtain ⟨hk, rfl⟩ := hat j u hu
      exact (hfs j hk).2
    · obtain ⟨hk, rfl⟩ := hat k u hu
      exact (hfs k hk).1
end

end Go.Proofs.Ytmfigiifflljpaa
