/- Arguments that came in: a list of specimens. -/
import Derived.Test.YtfnngchanhnaiaaDoorSpec
import Derived.OpenShut
set_option linter.unusedVariables false
set_option linter.unusedSimpArgs false
set_option maxRecDepth 100000
namespace Go.Proofs.YtfnngchanhnaiaaDoor
open Go.RowKit Num Go.ChangeShapes Go.Deep

section
variable {H : Type} {enc : TypeId × Value → H} {W : World} {spare : Nat → Bool} {held : Bool}
set_option maxRecDepth 100000 in
theorem cells_spec {fuel : Nat} {a : Addr} {cs : List Value} {x : DataW H × List MemPlace} (hc : W.cells? 0 a 7 = some cs) (h : DataW.trod enc Tryd.prog W 0 spare held fuel 32 cs = some x) : ∃ s : Sp, ∀ j u, s.cells[j]? = some u → W.cell? (a.add j) = some u := by
  obtain ⟨_, hcl, hat⟩ := World.cells?_some hc
  obtain ⟨xs, n, _, hx, _, hlen, hg⟩ := DataW.trod_struct Tryd.underlying32 h
  match cs, hcl, xs, hlen with
  | [c0, c1, c2, c3, c4, c5, c6], _, [y0, y1, y2, y3, y4, y5, y6], _ =>
    have e0 : DataW.trod enc Tryd.prog W 0 spare held n 3 [c0] = some y0 := hg 0 _ rfl
    have e1 : DataW.trod enc Tryd.prog W 0 spare held n 3 [c1] = some y1 := hg 1 _ rfl
    have e2 : DataW.trod enc Tryd.prog W 0 spare held n 3 [c2] = some y2 := hg 2 _ rfl
    have e3 : DataW.trod enc Tryd.prog W 0 spare held n 3 [c3] = some y3 := hg 3 _ rfl
    have e4 : DataW.trod enc Tryd.prog W 0 spare held n 3 [c4] = some y4 := hg 4 _ rfl
    have e5 : DataW.trod enc Tryd.prog W 0 spare held n 3 [c5] = some y5 := hg 5 _ rfl
    have e6 : DataW.trod enc Tryd.prog W 0 spare held n 3 [c6] = some y6 := hg 6 _ rfl
    obtain ⟨z0, i0, _, _⟩ := DataW.trod_int Tryd.underlying3 e0
    obtain ⟨z1, i1, _, _⟩ := DataW.trod_int Tryd.underlying3 e1
    obtain ⟨z2, i2, _, _⟩ := DataW.trod_int Tryd.underlying3 e2
    obtain ⟨z3, i3, _, _⟩ := DataW.trod_int Tryd.underlying3 e3
    obtain ⟨z4, i4, _, _⟩ := DataW.trod_int Tryd.underlying3 e4
    obtain ⟨z5, i5, _, _⟩ := DataW.trod_int Tryd.underlying3 e5
    obtain ⟨z6, i6, _, _⟩ := DataW.trod_int Tryd.underlying3 e6
    simp only [List.cons.injEq, and_true] at i0 i1 i2 i3 i4 i5 i6
    subst i0 i1 i2 i3 i4 i5 i6
    refine ⟨⟨z0, z1, z2, z3, z4, z5, z6⟩, fun j u hu => ?_⟩
    have hj : j < 7 := by
      have := (List.getElem?_eq_some_iff.1 hu).1
      exact this
    exact (hat j hj).trans hu
theorem opened_specs {v : Value} {d : DataW H} {ps : List MemPlace} {r : Reach} {b : Nat} (hval : Value.okWide Tryd.prog W r b 22 v) (h : DataW.Trod enc Tryd.prog W 0 spare held 22 v d ps) : ∃ l : List Sp, SpecsV W v l := by
  obtain ⟨a0, len0, cap0, rfl⟩ := WideShapes.okWide_slice Tryd.underlying22 hval
  obtain ⟨fuel, hf⟩ := h
  have c7 : Tryd.prog.cellsOf 32 = 7 := by kernel_rfl
  rcases open_slice Tryd.underlying22 hf with ⟨hcs, _⟩ | ⟨a, len, cap, m, n, D, Pl, hcs, _, hl, hm, hmm, _, hi⟩
  · have e : Value.slice a0 len0 cap0 = .slice none 0 0 := by simpa [Value.cells] using hcs
    rw [e]
    exact ⟨[], none, 0, rfl, Nat.le_refl _, by omega, Reads.nil_⟩
  · have e : Value.slice a0 len0 cap0 = .slice (some a) len cap := by simpa [Value.cells] using hcs
    rw [e]
    have hml : len ≤ m := by rw [hmm]; split <;> omega
    have hsp : ∀ i, i < len → ∃ s : Sp, ∀ j u, s.cells[j]? = some u → W.cell? ((a.add (i * 7)).add j) = some u := fun i hil => by
      obtain ⟨cs', hc, ht'⟩ := hi i (by omega)
      rw [c7] at hc
      exact cells_spec hc ht'
    obtain ⟨f, hfs⟩ : ∃ f : Nat → Sp, ∀ i, i < len → ∀ j u, (f i).cells[j]? = some u → W.cell? ((a.add (i * 7)).add j) = some u :=
      ⟨fun i => if hh : i < len then Classical.choose (hsp i hh) else ⟨0, 0, 0, 0, 0, 0, 0⟩, fun i hil => by
        show ∀ j u, (if hh : i < len then Classical.choose (hsp i hh) else _).cells[j]? = some u → _
        rw [dif_pos hil]
        exact Classical.choose_spec (hsp i hil)⟩
    have hlen : ((List.range len).map f).length = len := by simp
    refine ⟨(List.range len).map f, some a, cap, by rw [hlen], by rw [hlen]; exact hl, hm, by rw [scells_length, hlen], fun hpos => ?_⟩
    rw [hlen] at hpos
    refine ⟨a, rfl, ?_, fun j u hu => ?_⟩
    · have h0 := hfs 0 hpos 0 _ rfl
      have h1 := World.block_lt_of_cell? _ _ h0
      rw [block_of_add, block_of_add] at h1
      exact h1
    · have hj : j < len * 7 := by
        have := (List.getElem?_eq_some_iff.1 hu).1
        rw [scells_length, hlen] at this
        exact this
      have hk : j / 7 < len := by omega
      have hr : j % 7 < 7 := Nat.mod_lt _ (by omega)
      have hjj : j = j / 7 * 7 + j % 7 := by omega
      rw [hjj, scells_at (k := j / 7) (s := f (j / 7)) (by rw [List.getElem?_map, List.getElem?_range hk]; rfl) _ hr] at hu
      have h2 := hfs _ hk _ _ hu
      rw [Go.Deep.add_add, ← hjj] at h2
      exact h2
end

end Go.Proofs.YtfnngchanhnaiaaDoor
