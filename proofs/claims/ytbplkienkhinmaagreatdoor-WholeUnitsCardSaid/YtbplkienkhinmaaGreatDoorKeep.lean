/- Arguments that came in: what is known of them. No program is named here. A Natural that came in. Lists of integers: what a call gives; base.Ints; slices.Clip. -/
import Derived.Test.YtbplkienkhinmaaGreatDoorMem
import Derived.ChangeSlices
import Derived.Deep.Slices
import Derived.WideShapes
import Derived.OpenShut
import Derived.Lib.SmallJoins
import Derived.Test.YtbplkienkhinmaaGreatDoorProg
import Derived.Test.YtbplkienkhinmaaGreatDoorNatural
import Derived.BigQuiet
import Derived.Deep.QuietTactic
set_option linter.unusedVariables false
set_option linter.unusedSimpArgs false
set_option maxRecDepth 100000
namespace Go.Proofs.YtbplkienkhinmaaGreatDoor
open Go.RowKit Num Go.ChangeShapes Go.Deep

/-- A slice of integers that came in. -/
def KInts (k : IntKind) (w : World) (v : Value) (zs : List Int) : Prop :=
  ∃ A cap, v = .slice A zs.length cap ∧ zs.length ≤ cap ∧ cap ≤ 9223372036854775807 ∧ Reads w 1 A zs.length (zs.map (Value.int k)) ∧ ∀ z ∈ zs, (Lit.int k z).wf = true
theorem KInts.below {k : IntKind} {w w' : World} {v : Value} {zs : List Int} (h : KInts k w v zs) (hb : Ext w w') : KInts k w' v zs := by
  obtain ⟨A, cap, h1, h2, h3, h4, h5⟩ := h
  exact ⟨A, cap, h1, h2, h3, h4.below hb, h5⟩

section
variable {H : Type} {enc : TypeId × Value → H} {P : Program} {W : World} {spare : Nat → Bool} {held : Bool}

theorem open_kints {t e : TypeId} {k : IntKind} {fuel : Nat} {cs : List Value} {x : DataW H × List MemPlace} (ht : P.underlying t = some (.slice e)) (he : P.underlying e = some (.int k)) (hc : P.cellsOf e = 1)
    (h : DataW.trod enc P W 0 spare held fuel t cs = some x) : ∃ v zs, cs = [v] ∧ KInts k W v zs := by
  rcases open_ints ht he hc h with ⟨hcs, _⟩ | ⟨a, len, cap, zs, hcs, _, hl, hm, hz, _, hcell, hwf⟩
  · exact ⟨_, [], hcs, none, 0, rfl, Nat.le_refl _, by omega, Reads.nil_, by simp⟩
  · have hzl : len ≤ zs.length := by rw [hz]; split <;> omega
    refine ⟨_, zs.take len, hcs, some a, cap, by simp [Nat.min_eq_left hzl], by simp; omega, by unfold maxLen at hm; exact hm, ⟨by simp, fun hpos => ?_⟩, fun z hz' => hwf z (List.mem_of_mem_take hz')⟩
    have hl0 : 0 < zs.length := by simp at hpos; omega
    have hb : a.block < W.heap.size := by
      have h0 := hcell 0 hl0
      have h1 := World.block_lt_of_cell? _ _ h0
      rwa [block_of_add] at h1
    refine ⟨a, rfl, hb, fun j u hu => ?_⟩
    rw [List.getElem?_map] at hu
    obtain ⟨z, hz1, rfl⟩ := Option.map_eq_some_iff.1 hu
    rw [List.getElem?_take] at hz1
    split at hz1
    · obtain ⟨hj, hz2⟩ := List.getElem?_eq_some_iff.1 hz1
      rw [hcell j hj]
      simp [List.getD, hj, hz2]
    · cases hz1

theorem opened_kints {t e : TypeId} {k : IntKind} {v : Value} {d : DataW H} {ps : List MemPlace} {r : Reach} {b : Nat} (ht : P.underlying t = some (.slice e)) (he : P.underlying e = some (.int k)) (hc : P.cellsOf e = 1)
    (hval : Value.okWide P W r b t v) (h : DataW.Trod enc P W 0 spare held t v d ps) : ∃ zs, KInts k W v zs := by
  obtain ⟨a0, len, cap, rfl⟩ := WideShapes.okWide_slice ht hval
  obtain ⟨fuel, hf⟩ := h
  obtain ⟨v', zs, e1, h1⟩ := open_kints ht he hc hf
  have : v' = .slice a0 len cap := by simpa [Value.cells] using e1.symm
  subst this
  exact ⟨zs, h1⟩
end

section
variable {H : Type} {enc : TypeId × Value → H} {P : Program} {w : World} {base : Nat} {spare : Nat → Bool} {held : Bool}
theorem array1 {α : Type} {cs : Array α} (h : cs.size = 1) : ∃ c0, cs = #[c0] := by
  obtain ⟨l⟩ := cs
  match l, h with
  | [c0], _ => exact ⟨c0, rfl⟩
theorem open_agg1 {r : Reach} {b0 : Nat} {t : TypeId} {f0 : Field} {v : Value} {d : DataW H} {p : List MemPlace} (hs : P.underlying t = some (.struct #[f0])) (hone : oneCellFields P #[f0] = true) (hC : P.cellsOf t = 1)
    (hv : Value.okWide P w r b0 t v) (h : DataW.Trod enc P w base spare held t v d p) :
    ∃ (v0 : Value) (y0 : DataW H × List MemPlace) (n : Nat), v = .agg #[v0] ∧ DataW.trod enc P w base spare held n f0.type [v0] = some y0 := by
  obtain ⟨cs, rfl, hsz⟩ := WideShapes.okWide_struct hs hv
  obtain ⟨c0, rfl⟩ := array1 (hsz.trans hC)
  obtain ⟨fuel, hf⟩ := h
  obtain ⟨y0, n, hx, _, h0⟩ := trod_struct1 hs hf
  obtain ⟨o0, k0⟩ := hone_of hone 0 f0 rfl
  exact ⟨c0, y0, n, rfl, by simpa [Value.cells, o0, k0] using h0⟩
end

/-- Limbs that came in. -/
def KLimbs (w : World) (s : Value) (m n : Nat) : Prop := ∃ xs, U32s w s xs ∧ (∀ x ∈ xs, x < 4294967296) ∧ xs.length = m ∧ val xs = n
theorem KLimbs.below {w w' : World} {s : Value} {m n : Nat} (h : KLimbs w s m n) (hb : Ext w w') : KLimbs w' s m n := by
  obtain ⟨xs, h1, h2⟩ := h
  exact ⟨xs, h1.below hb, h2⟩
theorem KLimbs.nat {w : World} {s : Value} {m n : Nat} (h : KLimbs w s m n) (hm : m ≤ 1099511627776) : NatV w s n := by
  obtain ⟨xs, h1, h2, rfl, h4⟩ := h
  exact ⟨xs, h1, h2, hm, h4⟩
theorem KLimbs.form {w : World} {s : Value} {m n : Nat} (h : KLimbs w s m n) : ∃ A c, s = .slice A m c := by
  obtain ⟨xs, ⟨A, c, rfl, _⟩, _, rfl, _⟩ := h
  exact ⟨A, c, rfl⟩
theorem klimbs_of {w : World} {v : Value} {zs : List Int} (h : KInts .u32 w v zs) : ∃ m n, KLimbs w v m n := by
  obtain ⟨A, cap, rfl, h2, h3, h4, h5⟩ := h
  have hz : ∀ z ∈ zs, 0 ≤ z ∧ z < 4294967296 := fun z hz => by
    have := h5 z hz
    simp [Lit.wf, IntKind.has, IntKind.min, IntKind.max, IntKind.bits, IntKind.signed] at this
    omega
  obtain ⟨xs, rfl⟩ : ∃ xs : List Nat, zs = xs.map (fun x : Nat => (x : Int)) := by
    refine ⟨zs.map Int.toNat, ?_⟩
    rw [List.map_map]
    conv => lhs; rw [← List.map_id zs]
    refine List.map_congr_left fun z h => ?_
    have := hz z h
    simp; omega
  refine ⟨_, _, xs, ⟨A, cap, by simp, by simpa using h2, h3, ?_⟩, fun x hx => ?_, rfl, rfl⟩
  · have : (xs.map (fun x : Nat => (x : Int))).map (Value.int .u32) = u32s xs := by simp [u32s]
    rw [this] at h4
    simpa using h4
  · have := hz (x : Int) (List.mem_map.2 ⟨x, hx, rfl⟩)
    omega

end Go.Proofs.YtbplkienkhinmaaGreatDoor
namespace Go.Proofs.YtbplkienkhinmaaGreatDoor
open Go.RowKit Num Go.ChangeShapes Go.Deep

/-- A Natural that came in: so many limbs, of that value. -/
def KNat (w : World) (v : Value) (m n : Nat) : Prop := ∃ s, v = .agg #[s] ∧ KLimbs w s m n

section
variable {H : Type} {enc : TypeId × Value → H} {W : World} {spare : Nat → Bool} {held : Bool}
theorem cell_nat {fuel : Nat} {s : Value} {y : DataW H × List MemPlace} (h : DataW.trod enc Tryz.prog W 0 spare held fuel 25 [s] = some y) : ∃ m n, KLimbs W s m n := by
  obtain ⟨y0, n, hx, _, h0⟩ := trod_struct1 Tryz.underlying25 h
  obtain ⟨v', zs, e1, h1⟩ := open_kints (k := .u32) Tryz.underlying23 Tryz.underlying91 (by kernel_rfl) h0
  have e2 : ∀ o c, ([s].drop o).take c = [v'] → v' = s := by
    intro o c h
    cases o with
    | zero => cases c with
      | zero => simp at h
      | succ c => simpa using h.symm
    | succ o => simp at h
  rw [e2 _ _ e1] at h1
  exact klimbs_of h1
theorem opened_nat {v : Value} {d : DataW H} {ps : List MemPlace} {r : Reach} {b : Nat} (hval : Value.okWide Tryz.prog W r b 25 v) (h : DataW.Trod enc Tryz.prog W 0 spare held 25 v d ps) : ∃ z : Nat × Nat, KNat W v z.1 z.2 := by
  obtain ⟨cs, rfl, hsz⟩ := WideShapes.okWide_struct Tryz.underlying25 hval
  obtain ⟨c0, rfl⟩ := Go.Proofs.YtbplkienkhinmaaGreatDoor.array1 (hsz.trans (show Tryz.prog.cellsOf 25 = 1 by kernel_rfl))
  obtain ⟨fuel, hf⟩ := h
  obtain ⟨m, n, h1⟩ := cell_nat (by simpa [Value.cells] using hf)
  exact ⟨(m, n), c0, rfl, h1⟩
end

end Go.Proofs.YtbplkienkhinmaaGreatDoor
namespace Go.Proofs.YtbplkienkhinmaaGreatDoor
open Go.RowKit Num

theorem info_int : (Tryz.prog.info? 3).map (fun i => (i.zero, i.size, i.bytes)) = some (some (.int .i64 0), 1, 8) := by kernel_rfl

def i64l (zs : List Int) : List Value := zs.map (Value.int .i64)
theorem i64l_snoc (zs : List Int) (z : Int) : i64l zs ++ [.int .i64 z] = i64l (zs ++ [z]) := by simp [i64l]
theorem i64l_length (zs : List Int) : (i64l zs).length = zs.length := by simp [i64l]
theorem i64l_get (zs : List Int) {k : Nat} (hk : k < zs.length) : (i64l zs)[k]? = some (.int .i64 (zs.getD k 0)) := by
  unfold i64l
  rw [List.getElem?_map, List.getElem?_eq_getElem hk]
  simp [hk]

/-- A slice of int that reads as a list. -/
def IntsV (w : World) (v : Value) (zs : List Int) : Prop := ∃ A c, v = .slice A zs.length c ∧ zs.length ≤ c ∧ c ≤ 9223372036854775807 ∧ Reads w 1 A zs.length (i64l zs)
theorem IntsV.below {w w' : World} {v : Value} {zs : List Int} (h : IntsV w v zs) (hb : Ext w w') : IntsV w' v zs := by
  obtain ⟨A, c, h1, h2, h3, h4⟩ := h
  exact ⟨A, c, h1, h2, h3, h4.below hb⟩
theorem IntsV.nil_ (w : World) : IntsV w (.slice none 0 0) [] := ⟨none, 0, rfl, Nat.le_refl _, by omega, Reads.nil_⟩
theorem KInts.ints {w : World} {v : Value} {zs : List Int} (h : KInts .i64 w v zs) : IntsV w v zs := by
  obtain ⟨A, c, h1, h2, h3, h4, _⟩ := h
  exact ⟨A, c, h1, h2, h3, h4⟩
theorem IntsV.of_own {w : World} {base : Nat} {e : TypeId} {v : Value} {n : Nat} {zs : List Int} (h : w.ownsRow base e 1 v n (i64l zs)) : IntsV w v zs := by
  have hl : zs.length = n := by have := h.1; simpa [i64l_length] using this
  subst hl
  rcases h.2 with ⟨rfl, h0⟩ | ⟨g, cap, cur, rfl, _, _, hc, hm, _, _⟩
  · have : zs = [] := List.eq_nil_of_length_eq_zero h0
    subst this
    exact IntsV.nil_ w
  · exact ⟨_, cap, rfl, hc, hm, Reads.of_own h⟩
theorem IntsV.at_ {w : World} {A : Option Addr} {n c : Nat} {zs : List Int} (h : IntsV w (.slice A n c) zs) {k : Nat} (hk : k < zs.length) :
    ∃ ad, A = some ad ∧ ad.block < w.heap.size ∧ w.cell? (ad.add k) = some (.int .i64 (zs.getD k 0)) := by
  obtain ⟨A', c', e, _, _, hr⟩ := h
  injection e with e1 e2 e3
  subst e1
  obtain ⟨ad, u, h1, h2, h3, h4⟩ := hr.at_ hk
  rw [i64l_get zs hk] at h3
  cases h3
  exact ⟨ad, h1, h2, h4⟩

/-- What a call that answers ([]int, Errno) gives. -/
def GivesI (w : World) (zs : List Int) (er : Int) (e : Ending) (w' : World) : Prop :=
  ∃ A c, e = .returned (.tuple #[.slice A zs.length c, .int .i64 er]) ∧ IntsV w' (.slice A zs.length c) zs ∧ Ext w w' ∧ New w.heap.size (.slice A zs.length c)
theorem GivesI.none_ {w w' : World} {er : Int} (h : Ext w w') : GivesI w [] er (.returned (.tuple #[.slice none 0 0, .int .i64 er])) w' := ⟨none, 0, rfl, IntsV.nil_ _, h, New.nil_ _⟩


end Go.Proofs.YtbplkienkhinmaaGreatDoor
