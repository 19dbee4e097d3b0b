/- Words for memory: a slice that reads as a list of cells; what a call leaves alone. No program is named here. What values stand for which numbers. No program is named here. Boxes that a call makes at its beginning: block by block, cell by cell. No program is named here. -/
import Derived.WalkKit
import Derived.WalkSpells
import Derived.WalkLawsBesides
import Derived.Deep.AppendLies
import Derived.Deep.Draws
import Derived.Maps.AppendAt
import Derived.Lib.Hide
import Derived.Test.YtbplkienkhinmaaGreatDoorNum
set_option linter.unusedVariables false
set_option linter.unusedSimpArgs false
namespace Go.Proofs.YtbplkienkhinmaaGreatDoor
open Go.RowKit

theorem block_of_add (a : Addr) (n : Nat) : (a.add n).block = a.block := by unfold Addr.add; split <;> rfl
theorem add_of_add (a : Addr) (i j : Nat) : (a.add i).add j = a.add (i + j) := by
  unfold Addr.add
  by_cases hi : i = 0 <;> by_cases hj : j = 0 <;> simp [hi, hj, Nat.add_assoc]

def lenOf : Value → Nat | .slice _ k _ => k | _ => 0
theorem ret_slice {A : Option Addr} {a b c : Nat} (h : a = b) : Ending.returned (.slice A a c) = .returned (.slice A b c) := by rw [h]
theorem ret_int {k : IntKind} {a b : Int} (h : a = b) : Ending.returned (.int k a) = .returned (.int k b) := by rw [h]
theorem ret_bool {a b : Bool} (h : a = b) : Ending.returned (.bool a) = .returned (.bool b) := by rw [h]

/-- 'size' cells an element; 'n' elements; all of them lie below the heap's end. -/
def Reads (w : World) (size : Nat) (A : Option Addr) (n : Nat) (xs : List Value) : Prop :=
  xs.length = n * size ∧ (0 < n → ∃ ad, A = some ad ∧ ad.block < w.heap.size ∧ ∀ j u, xs[j]? = some u → w.cell? (ad.add j) = some u)

section
variable {w w' : World} {size n : Nat} {A : Option Addr} {xs : List Value}
theorem Reads.nil_ : Reads w size A 0 [] := ⟨by simp, fun h => absurd h (by omega)⟩
theorem Reads.at_ {k : Nat} (h : Reads w 1 A n xs) (hk : k < n) : ∃ ad u, A = some ad ∧ ad.block < w.heap.size ∧ xs[k]? = some u ∧ w.cell? (ad.add k) = some u := by
  obtain ⟨ad, e, hb, hc⟩ := h.2 (by omega)
  have hl : k < xs.length := by have := h.1; omega
  exact ⟨ad, xs[k], e, hb, List.getElem?_eq_getElem hl, hc k _ (List.getElem?_eq_getElem hl)⟩
theorem Reads.keep (h : Reads w size A n xs) (hs : w.heap.size ≤ w'.heap.size) (hk : ∀ p : Addr, p.block < w.heap.size → w'.cell? p = w.cell? p) : Reads w' size A n xs :=
  ⟨h.1, fun hn => by
    obtain ⟨ad, e, hb, hc⟩ := h.2 hn
    exact ⟨ad, e, by omega, fun j u hu => (hk _ (by rw [block_of_add]; exact hb)).trans (hc j u hu)⟩⟩
theorem Reads.below (h : Reads w size A n xs) (hb : Below w.heap.size w w') : Reads w' size A n xs := h.keep hb.size fun _ hp => hb.cell hp
theorem Reads.drew (h : Reads w size A n xs) : Reads w.drew size A n xs := h
theorem Reads.alloc (h : Reads w size A n xs) (o : Obj) : Reads (w.alloc o) size A n xs := h.keep (by simp) fun p hp => World.cell?_alloc_lt w o p (by omega)
theorem Reads.take_ (h : Reads w 1 A n xs) {k : Nat} (hk : k ≤ n) : Reads w 1 A k (xs.take k) := by
  refine ⟨by have := h.1; simp; omega, fun hn => ?_⟩
  obtain ⟨ad, e, hb, hc⟩ := h.2 (by omega)
  refine ⟨ad, e, hb, fun j u hu => hc j u ?_⟩
  rw [List.getElem?_take] at hu
  split at hu
  · exact hu
  · cases hu
theorem Reads.of_own {base : Nat} {e : TypeId} {c : Nat} (h : w.ownsRow base e size (.slice A n c) n xs) : Reads w size A n xs := by
  refine ⟨h.1, fun hn => ?_⟩
  obtain ⟨g, cap, hv, _, hlt⟩ := h.form hn
  have hA : A = some ⟨g, 0, none⟩ := by injection hv
  subst hA
  exact ⟨_, rfl, hlt, h.cells (g := g) rfl⟩
end

/-- The call made new memory and left all else alone. -/
abbrev Ext (w w' : World) : Prop := Below w.heap.size w w'

theorem _root_.Go.RowKit.Below.drewN {B : Nat} {a w : World} (h : Below B a w) (n : Nat) : Below B a (w.drewN n) := ⟨h.os, h.tape, h.output, h.size, h.block⟩
theorem Ext.grown {a b : World} (h : Ext a b) : a.grownBy b none := ⟨h.os, h.tape, h.output, h.size, fun k hk _ => h.block k hk⟩
theorem Ext.trans {a b c : World} (h : Ext a b) (k : Ext b c) : Ext a c := Below.trans h (k.mono h.size)

end Go.Proofs.YtbplkienkhinmaaGreatDoor
namespace Go.Proofs.YtbplkienkhinmaaGreatDoor
open Go.RowKit Num

def u32s (xs : List Nat) : List Value := xs.map fun x : Nat => Value.int .u32 (x : Int)
theorem u32s_snoc (xs : List Nat) (x : Nat) : u32s xs ++ [Value.int .u32 (x : Int)] = u32s (xs ++ [x]) := by simp [u32s]
theorem u32s_length (xs : List Nat) : (u32s xs).length = xs.length := by simp [u32s]
theorem u32s_take (xs : List Nat) (k : Nat) : (u32s xs).take k = u32s (xs.take k) := by simp [u32s]
theorem u32s_drop (xs : List Nat) (k : Nat) : (u32s xs).drop k = u32s (xs.drop k) := by simp [u32s]
theorem u32s_append (xs ys : List Nat) : u32s xs ++ u32s ys = u32s (xs ++ ys) := by simp [u32s]
theorem u32s_oneCell (xs : List Nat) : ∀ u ∈ u32s xs, u.oneCell' = true := by
  intro u hu
  obtain ⟨_, _, rfl⟩ := List.mem_map.1 hu
  rfl

/-- A slice of uint32 that reads as a list of numbers. -/
def U32s (w : World) (v : Value) (xs : List Nat) : Prop :=
  ∃ A cap, v = .slice A xs.length cap ∧ xs.length ≤ cap ∧ cap ≤ 9223372036854775807 ∧ Reads w 1 A xs.length (u32s xs)

section
variable {w w' : World} {v : Value} {xs : List Nat}
theorem U32s.below (h : U32s w v xs) (hb : Ext w w') : U32s w' v xs := by
  obtain ⟨A, cap, h1, h2, h3, h4⟩ := h
  exact ⟨A, cap, h1, h2, h3, h4.below hb⟩
theorem U32s.alloc (h : U32s w v xs) (o : Obj) : U32s (w.alloc o) v xs := h.below ((Below.refl _ _).alloc (Nat.le_refl _) o)
theorem U32s.drew (h : U32s w v xs) : U32s w.drew v xs := h.below (Below.refl _ _).drew
theorem U32s.of_own {base : Nat} {e : TypeId} {A : Option Addr} {n c : Nat} (h : w.ownsRow base e 1 (.slice A n c) n (u32s xs)) (hc : n ≤ c) (hm : c ≤ 9223372036854775807) : U32s w (.slice A n c) xs := by
  have hl : xs.length = n := by have := h.1; simpa [u32s] using this
  subst hl
  exact ⟨A, c, rfl, hc, hm, Reads.of_own h⟩
theorem U32s.of_row {base : Nat} {e : TypeId} {n : Nat} (h : w.ownsRow base e 1 v n (u32s xs)) : U32s w v xs := by
  have hl : xs.length = n := by have := h.1; simpa [u32s] using this
  subst hl
  rcases h.2 with ⟨rfl, h0⟩ | ⟨g, cap, cur, rfl, _, _, hc, hm, _, _⟩
  · have : xs = [] := List.eq_nil_of_length_eq_zero h0
    subst this
    exact ⟨none, 0, rfl, Nat.le_refl _, by omega, Reads.nil_⟩
  · exact ⟨_, cap, rfl, hc, hm, Reads.of_own h⟩
theorem U32s.nil_ (w : World) : U32s w (.slice none 0 0) [] := ⟨none, 0, rfl, Nat.le_refl _, by omega, Reads.nil_⟩
end

/-- The limbs of n, canonical. -/
def CanV (w : World) (v : Value) (n : Nat) : Prop := U32s w v (limbsOf n)
theorem CanV.form {w : World} {v : Value} {n : Nat} (h : CanV w v n) : ∃ A k c, v = .slice A k c := by
  obtain ⟨A, c, rfl, _⟩ := h
  exact ⟨_, _, _, rfl⟩
theorem CanV.below {w w' : World} {v : Value} {n : Nat} (h : CanV w v n) (hb : Ext w w') : CanV w' v n := U32s.below h hb
theorem CanV.alloc {w : World} {v : Value} {n : Nat} (h : CanV w v n) (o : Obj) : CanV (w.alloc o) v n := U32s.alloc h o
theorem CanV.drew {w : World} {v : Value} {n : Nat} (h : CanV w v n) : CanV w.drew v n := U32s.drew h

/-- How many limbs there may be. -/
def Fit (n : Nat) : Prop := (limbsOf n).length ≤ 1099511627776

/-- Limbs whose value is n, whatever their size. -/
def NatV (w : World) (v : Value) (n : Nat) : Prop := ∃ xs, U32s w v xs ∧ (∀ x ∈ xs, x < 4294967296) ∧ xs.length ≤ 1099511627776 ∧ val xs = n
theorem NatV.form {w : World} {v : Value} {n : Nat} (h : NatV w v n) : ∃ A k c, v = .slice A k c := by
  obtain ⟨xs, ⟨A, c, rfl, _⟩, _⟩ := h
  exact ⟨_, _, _, rfl⟩
theorem NatV.below {w w' : World} {v : Value} {n : Nat} (h : NatV w v n) (hb : Ext w w') : NatV w' v n := by
  obtain ⟨xs, h1, h2⟩ := h
  exact ⟨xs, h1.below hb, h2⟩
theorem NatV.alloc {w : World} {v : Value} {n : Nat} (h : NatV w v n) (o : Obj) : NatV (w.alloc o) v n := h.below ((Below.refl _ _).alloc (Nat.le_refl _) o)
theorem NatV.drew {w : World} {v : Value} {n : Nat} (h : NatV w v n) : NatV w.drew v n := h.below (Below.refl _ _).drew
theorem CanV.nat {w : World} {v : Value} {n : Nat} (h : CanV w v n) (hf : Fit n) : NatV w v n :=
  ⟨_, h, fun x hx => by have := limbsOf_digs n x hx; omega, hf, val_limbsOf n⟩
theorem NatV.nil_ (w : World) : NatV w (.slice none 0 0) 0 := ⟨[], U32s.nil_ w, by simp, by simp, rfl⟩
theorem CanV.nil_ (w : World) : CanV w (.slice none 0 0) 0 := by unfold CanV; rw [limbsOf_zero]; exact U32s.nil_ w

/-- A struct Natural in canonical form. -/
def CanN (w : World) (r : Value) (n : Nat) : Prop := ∃ s, r = .agg #[s] ∧ CanV w s n
theorem CanN.below {w w' : World} {v : Value} {n : Nat} (h : CanN w v n) (hb : Ext w w') : CanN w' v n := by
  obtain ⟨s, h1, h2⟩ := h
  exact ⟨s, h1, h2.below hb⟩
/-- A struct Natural of that value. -/
def AnyN (w : World) (r : Value) (n : Nat) : Prop := ∃ s, r = .agg #[s] ∧ NatV w s n
theorem AnyN.below {w w' : World} {v : Value} {n : Nat} (h : AnyN w v n) (hb : Ext w w') : AnyN w' v n := by
  obtain ⟨s, h1, h2⟩ := h
  exact ⟨s, h1, h2.below hb⟩
theorem CanN.any {w : World} {v : Value} {n : Nat} (h : CanN w v n) (hf : Fit n) : AnyN w v n := by
  obtain ⟨s, h1, h2⟩ := h
  exact ⟨s, h1, h2.nat hf⟩

def New (B : Nat) (v : Value) : Prop := ∀ b, v.ownBlock = some b → B ≤ b
theorem New.mono {B B' : Nat} {v : Value} (h : New B v) (hB : B' ≤ B) : New B' v := fun b hb => by have := h b hb; omega
theorem New.nil_ (B : Nat) : New B (.slice none 0 0) := fun b h => by cases h
theorem New.at_ {B b o n c : Nat} (h : B ≤ b) : New B (.slice (some ⟨b, o, none⟩) n c) := fun b' h' => by cases h'; exact h
theorem New.same {B : Nat} {v v' : Value} (h : New B v) (e : v'.ownBlock = v.ownBlock) : New B v' := fun b hb => h b (by rw [← e]; exact hb)

/-- What a function that answers a Natural gives: canonical, in new memory. -/
def GivesN (w : World) (n : Nat) (e : Ending) (w' : World) : Prop := ∃ A k c, e = .returned (.agg #[.slice A k c]) ∧ CanV w' (.slice A k c) n ∧ Ext w w' ∧ New w.heap.size (.slice A k c)

/-- As 'Gives', and what comes back lies in new memory. -/
def GivesS (w : World) (R : World → Value → Prop) (e : Ending) (w' : World) : Prop := ∃ v, e = .returned v ∧ R w' v ∧ Ext w w' ∧ New w.heap.size v
/-- What a pure call gives: a name, so that the walk does not look in. -/
def Gives (w : World) (R : World → Value → Prop) (e : Ending) (w' : World) : Prop := ∃ v, e = .returned v ∧ R w' v ∧ Ext w w'

end Go.Proofs.YtbplkienkhinmaaGreatDoor
namespace Go.Proofs.YtbplkienkhinmaaGreatDoor
open Go.RowKit Num

theorem ext_alloc {a b : World} (h : Ext a b) (o : Obj) : Ext a (b.alloc o) := h.alloc h.size o
theorem ext_drew {a b : World} (h : Ext a b) : Ext a b.drew := h.drew
theorem ext_drewN {a b : World} (h : Ext a b) (n : Nat) : Ext a (b.drewN n) := h.drewN n
theorem ext_set {a b : World} (h : Ext a b) {p : Addr} (hp : a.heap.size ≤ p.block) (u : Value) : Ext a (b.setCell p u) := h.setCell hp u
theorem bcell {W w1 : World} (hb : Ext W w1) : (∀ b o, b < W.heap.size → w1.cell? ⟨b, o, none⟩ = W.cell? ⟨b, o, none⟩) ∧ (∀ b o, b < W.heap.size → w1.frozen? ⟨b, o, none⟩ = W.frozen? ⟨b, o, none⟩) :=
  ⟨fun b o h => hb.cell (p := ⟨b, o, none⟩) h, fun b o h => hb.frozen (p := ⟨b, o, none⟩) h⟩

structure Boxes (w W : World) (vs : List (List Value)) : Prop where
  ext : Ext w W
  size : w.heap.size + vs.length ≤ W.heap.size
  cell : ∀ i cs j v, vs[i]? = some cs → cs[j]? = some v → W.cell? ⟨w.heap.size + i, j, none⟩ = some v ∧ W.frozen? ⟨w.heap.size + i, j, none⟩ = false

section
variable {w W W' : World} {vs : List (List Value)}
theorem Boxes.nil_ (w : World) : Boxes w w [] := ⟨Below.refl _ _, by simp, by simp⟩
theorem Boxes.alloc (h : Boxes w W vs) (hs : W.heap.size = w.heap.size + vs.length) (cs : List Value) (t : TypeId) : Boxes w (W.alloc (.cells cs.toArray t)) (vs ++ [cs]) := by
  refine ⟨h.ext.alloc (by omega) _, by simp [hs]; omega, ?_⟩
  intro i ds j v hi hj
  rw [List.getElem?_append] at hi
  split at hi
  · have hne : w.heap.size + i ≠ W.heap.size := by omega
    obtain ⟨h1, h2⟩ := h.cell i ds j v hi hj
    exact ⟨by rw [World.cell?_alloc_old _ _ _ hne]; exact h1, by rw [World.frozen?_alloc_old _ _ _ hne]; exact h2⟩
  · rename_i hlt
    have hi0 : i = vs.length := by
      rcases Nat.lt_or_ge i (vs.length + 1) with h | h
      · omega
      · rw [List.getElem?_eq_none (by simp; omega)] at hi; cases hi
    subst hi0
    simp at hi
    subst hi
    rw [← hs]
    constructor
    · rw [World.cell?_alloc_new]; simpa using hj
    · simp
theorem Boxes.below (h : Boxes w W vs) (hx : Ext W W') : Boxes w W' vs := by
  refine ⟨h.ext.trans hx, by have := h.size; have := hx.size; omega, ?_⟩
  intro i cs j v hi hj
  have hlt : i < vs.length := (List.getElem?_eq_some_iff.1 hi).1
  have hb : w.heap.size + i < W.heap.size := by have := h.size; omega
  obtain ⟨h1, h2⟩ := h.cell i cs j v hi hj
  exact ⟨by rw [hx.cell (p := ⟨w.heap.size + i, j, none⟩) hb]; exact h1, by rw [hx.frozen (p := ⟨w.heap.size + i, j, none⟩) hb]; exact h2⟩
theorem Boxes.drew (h : Boxes w W vs) : Boxes w W.drew vs := h.below (Below.refl _ _).drew
theorem Boxes.set (h : Boxes w W vs) (i j : Nat) (v : Value) : Boxes w (W.setCell ⟨w.heap.size + i, j, none⟩ v) (vs.modify i (·.set j v)) := by
  refine ⟨h.ext.setCell (by show w.heap.size ≤ w.heap.size + i; omega) v, by simp; exact h.size, ?_⟩
  intro i' cs j' u hi hj
  rw [List.getElem?_modify] at hi
  obtain ⟨ds, hds, rfl⟩ := Option.map_eq_some_iff.1 hi
  by_cases hii : i = i'
  · subst hii
    simp only [↓reduceIte] at hj
    rw [List.getElem?_set] at hj
    split at hj
    · rename_i hjj
      subst hjj
      split at hj
      · cases hj
        have hjl : j < ds.length := by assumption
        obtain ⟨h1, h2⟩ := h.cell i ds j ds[j] hds (List.getElem?_eq_getElem hjl)
        exact ⟨World.cell?_setCell_same _ _ _ h1, by rw [World.frozen?_setCell]; exact h2⟩
      · cases hj
    · obtain ⟨h1, h2⟩ := h.cell i ds j' u hds hj
      refine ⟨?_, by rw [World.frozen?_setCell]; exact h2⟩
      rw [World.cell?_setCell_other _ _ _ _ (by simp; try assumption)]; exact h1
  · simp only [hii, ↓reduceIte, id] at hj
    obtain ⟨h1, h2⟩ := h.cell i' ds j' u hds hj
    refine ⟨?_, by rw [World.frozen?_setCell]; exact h2⟩
    rw [World.cell?_setCell_other _ _ _ _ (by simp; try omega)]; exact h1
end

end Go.Proofs.YtbplkienkhinmaaGreatDoor
