/- Arguments that came in: what is known of them. No program is named here. -/
import Derived.Test.YtkjcbfaimonaoaaDoorRep
import Derived.ChangeSlices
import Derived.Deep.Slices
import Derived.WideShapes
import Derived.OpenShut
import Derived.Lib.SmallJoins
set_option linter.unusedVariables false
set_option linter.unusedSimpArgs false
namespace Go.Proofs.YtkjcbfaimonaoaaDoor
open Go.RowKit Num Go.ChangeShapes Go.Deep

/-- A slice of integers that came in. -/
def KInts (k : IntKind) (w : World) (v : Value) (zs : List Int) : Prop :=
  ∃ A cap, v = .slice A zs.length cap ∧ zs.length ≤ cap ∧ cap ≤ 9223372036854775807 ∧ Reads w 1 A zs.length (zs.map (Value.int k)) ∧ ∀ z ∈ zs, (Lit.int k z).wf = true
theorem KInts.below {k : IntKind} {w w' : World} {v : Value} {zs : List Int} (h : KInts k w v zs) (hb : Ext w w') : KInts k w' v zs := by
  obtain ⟨A, cap, h1, h2, h3, h4, h5⟩ := h
  exact ⟨A, cap, h1, h2, h3, h4.below hb, h5⟩

section
variable {H : Type} {enc : TypeId × Value → H} {P : Program} {W : World} {spare : Nat → Bool} {held : Bool}

theorem open_kints {t e : TypeId} {k : IntKind} {fuel : Nat} {cs : List Value} {x : DataW H × List MemPlace} (ht : P.underlying t = some (.slice e)) (he : P.underlying e = some (.int k)) (hc : P.cellsOf e = 1)
    (h : DataW.trod enc P W 0 spare held fuel t cs = some x) : ∃ v zs, cs = [v] ∧ KInts k W v zs := by
  rcases open_ints ht he hc h with ⟨hcs, _⟩ | ⟨a, len, cap, zs, hcs, _, hl, hm, hz, _, hcell, hwf⟩
  · exact ⟨_, [], hcs, none, 0, rfl, Nat.le_refl _, by omega, Reads.nil_, by simp⟩
  · have hzl : len ≤ zs.length := by rw [hz]; split <;> omega
    refine ⟨_, zs.take len, hcs, some a, cap, by simp [Nat.min_eq_left hzl], by simp; omega, by unfold maxLen at hm; exact hm, ⟨by simp, fun hpos => ?_⟩, fun z hz' => hwf z (List.mem_of_mem_take hz')⟩
    have hl0 : 0 < zs.length := by simp at hpos; omega
    have hb : a.block < W.heap.size := by
      have h0 := hcell 0 hl0
      have h1 := World.block_lt_of_cell? _ _ h0
      rwa [block_of_add] at h1
    refine ⟨a, rfl, hb, fun j u hu => ?_⟩
    rw [List.getElem?_map] at hu
    obtain ⟨z, hz1, rfl⟩ := Option.map_eq_some_iff.1 hu
    rw [List.getElem?_take] at hz1
    split at hz1
    · obtain ⟨hj, hz2⟩ := List.getElem?_eq_some_iff.1 hz1
      rw [hcell j hj]
      simp [List.getD, hj, hz2]
    · cases hz1

theorem opened_kints {t e : TypeId} {k : IntKind} {v : Value} {d : DataW H} {ps : List MemPlace} {r : Reach} {b : Nat} (ht : P.underlying t = some (.slice e)) (he : P.underlying e = some (.int k)) (hc : P.cellsOf e = 1)
    (hval : Value.okWide P W r b t v) (h : DataW.Trod enc P W 0 spare held t v d ps) : ∃ zs, KInts k W v zs := by
  obtain ⟨a0, len, cap, rfl⟩ := WideShapes.okWide_slice ht hval
  obtain ⟨fuel, hf⟩ := h
  obtain ⟨v', zs, e1, h1⟩ := open_kints ht he hc hf
  have : v' = .slice a0 len cap := by simpa [Value.cells] using e1.symm
  subst this
  exact ⟨zs, h1⟩
end

section
variable {H : Type} {enc : TypeId × Value → H} {P : Program} {w : World} {base : Nat} {spare : Nat → Bool} {held : Bool}
theorem array1 {α : Type} {cs : Array α} (h : cs.size = 1) : ∃ c0, cs = #[c0] := by
  obtain ⟨l⟩ := cs
  match l, h with
  | [c0], _ => exact ⟨c0, rfl⟩
theorem open_agg1 {r : Reach} {b0 : Nat} {t : TypeId} {f0 : Field} {v : Value} {d : DataW H} {p : List MemPlace} (hs : P.underlying t = some (.struct #[f0])) (hone : oneCellFields P #[f0] = true) (hC : P.cellsOf t = 1)
    (hv : Value.okWide P w r b0 t v) (h : DataW.Trod enc P w base spare held t v d p) :
    ∃ (v0 : Value) (y0 : DataW H × List MemPlace) (n : Nat), v = .agg #[v0] ∧ DataW.trod enc P w base spare held n f0.type [v0] = some y0 := by
  obtain ⟨cs, rfl, hsz⟩ := WideShapes.okWide_struct hs hv
  obtain ⟨c0, rfl⟩ := array1 (hsz.trans hC)
  obtain ⟨fuel, hf⟩ := h
  obtain ⟨y0, n, hx, _, h0⟩ := trod_struct1 hs hf
  obtain ⟨o0, k0⟩ := hone_of hone 0 f0 rfl
  exact ⟨c0, y0, n, rfl, by simpa [Value.cells, o0, k0] using h0⟩
end

/-- Limbs that came in. -/
def KLimbs (w : World) (s : Value) (m n : Nat) : Prop := ∃ xs, U32s w s xs ∧ (∀ x ∈ xs, x < 4294967296) ∧ xs.length = m ∧ val xs = n
theorem KLimbs.below {w w' : World} {s : Value} {m n : Nat} (h : KLimbs w s m n) (hb : Ext w w') : KLimbs w' s m n := by
  obtain ⟨xs, h1, h2⟩ := h
  exact ⟨xs, h1.below hb, h2⟩
theorem KLimbs.nat {w : World} {s : Value} {m n : Nat} (h : KLimbs w s m n) (hm : m ≤ 1099511627776) : NatV w s n := by
  obtain ⟨xs, h1, h2, rfl, h4⟩ := h
  exact ⟨xs, h1, h2, hm, h4⟩
theorem KLimbs.form {w : World} {s : Value} {m n : Nat} (h : KLimbs w s m n) : ∃ A c, s = .slice A m c := by
  obtain ⟨xs, ⟨A, c, rfl, _⟩, _, rfl, _⟩ := h
  exact ⟨A, c, rfl⟩
theorem klimbs_of {w : World} {v : Value} {zs : List Int} (h : KInts .u32 w v zs) : ∃ m n, KLimbs w v m n := by
  obtain ⟨A, cap, rfl, h2, h3, h4, h5⟩ := h
  have hz : ∀ z ∈ zs, 0 ≤ z ∧ z < 4294967296 := fun z hz => by
    have := h5 z hz
    simp [Lit.wf, IntKind.has, IntKind.min, IntKind.max, IntKind.bits, IntKind.signed] at this
    omega
  obtain ⟨xs, rfl⟩ : ∃ xs : List Nat, zs = xs.map (fun x : Nat => (x : Int)) := by
    refine ⟨zs.map Int.toNat, ?_⟩
    rw [List.map_map]
    conv => lhs; rw [← List.map_id zs]
    refine List.map_congr_left fun z h => ?_
    have := hz z h
    simp; omega
  refine ⟨_, _, xs, ⟨A, cap, by simp, by simpa using h2, h3, ?_⟩, fun x hx => ?_, rfl, rfl⟩
  · have : (xs.map (fun x : Nat => (x : Int))).map (Value.int .u32) = u32s xs := by simp [u32s]
    rw [this] at h4
    simpa using h4
  · have := hz (x : Int) (List.mem_map.2 ⟨x, hx, rfl⟩)
    omega

end Go.Proofs.YtkjcbfaimonaoaaDoor
