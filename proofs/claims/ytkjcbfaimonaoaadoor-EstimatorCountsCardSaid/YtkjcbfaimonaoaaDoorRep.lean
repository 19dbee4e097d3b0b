/- What values stand for which numbers. No program is named here. -/
import Derived.Test.YtkjcbfaimonaoaaDoorMem
import Derived.Test.YtkjcbfaimonaoaaDoorNum
namespace Go.Proofs.YtkjcbfaimonaoaaDoor
open Go.RowKit Num

def u32s (xs : List Nat) : List Value := xs.map fun x : Nat => Value.int .u32 (x : Int)
theorem u32s_snoc (xs : List Nat) (x : Nat) : u32s xs ++ [Value.int .u32 (x : Int)] = u32s (xs ++ [x]) := by simp [u32s]
theorem u32s_length (xs : List Nat) : (u32s xs).length = xs.length := by simp [u32s]
theorem u32s_take (xs : List Nat) (k : Nat) : (u32s xs).take k = u32s (xs.take k) := by simp [u32s]
theorem u32s_drop (xs : List Nat) (k : Nat) : (u32s xs).drop k = u32s (xs.drop k) := by simp [u32s]
theorem u32s_append (xs ys : List Nat) : u32s xs ++ u32s ys = u32s (xs ++ ys) := by simp [u32s]
theorem u32s_oneCell (xs : List Nat) : ∀ u ∈ u32s xs, u.oneCell' = true := by
  intro u hu
  obtain ⟨_, _, rfl⟩ := List.mem_map.1 hu
  rfl

/-- A slice of uint32 that reads as a list of numbers. -/
def U32s (w : World) (v : Value) (xs : List Nat) : Prop :=
  ∃ A cap, v = .slice A xs.length cap ∧ xs.length ≤ cap ∧ cap ≤ 9223372036854775807 ∧ Reads w 1 A xs.length (u32s xs)

section
variable {w w' : World} {v : Value} {xs : List Nat}
theorem U32s.below (h : U32s w v xs) (hb : Ext w w') : U32s w' v xs := by
  obtain ⟨A, cap, h1, h2, h3, h4⟩ := h
  exact ⟨A, cap, h1, h2, h3, h4.below hb⟩
theorem U32s.alloc (h : U32s w v xs) (o : Obj) : U32s (w.alloc o) v xs := h.below ((Below.refl _ _).alloc (Nat.le_refl _) o)
theorem U32s.drew (h : U32s w v xs) : U32s w.drew v xs := h.below (Below.refl _ _).drew
theorem U32s.of_own {base : Nat} {e : TypeId} {A : Option Addr} {n c : Nat} (h : w.ownsRow base e 1 (.slice A n c) n (u32s xs)) (hc : n ≤ c) (hm : c ≤ 9223372036854775807) : U32s w (.slice A n c) xs := by
  have hl : xs.length = n := by have := h.1; simpa [u32s] using this
  subst hl
  exact ⟨A, c, rfl, hc, hm, Reads.of_own h⟩
theorem U32s.of_row {base : Nat} {e : TypeId} {n : Nat} (h : w.ownsRow base e 1 v n (u32s xs)) : U32s w v xs := by
  have hl : xs.length = n := by have := h.1; simpa [u32s] using this
  subst hl
  rcases h.2 with ⟨rfl, h0⟩ | ⟨g, cap, cur, rfl, _, _, hc, hm, _, _⟩
  · have : xs = [] := List.eq_nil_of_length_eq_zero h0
    subst this
    exact ⟨none, 0, rfl, Nat.le_refl _, by omega, Reads.nil_⟩
  · exact ⟨_, cap, rfl, hc, hm, Reads.of_own h⟩
theorem U32s.nil_ (w : World) : U32s w (.slice none 0 0) [] := ⟨none, 0, rfl, Nat.le_refl _, by omega, Reads.nil_⟩
end

/-- The limbs of n, canonical. -/
def CanV (w : World) (v : Value) (n : Nat) : Prop := U32s w v (limbsOf n)
theorem CanV.form {w : World} {v : Value} {n : Nat} (h : CanV w v n) : ∃ A k c, v = .slice A k c := by
  obtain ⟨A, c, rfl, _⟩ := h
  exact ⟨_, _, _, rfl⟩
theorem CanV.below {w w' : World} {v : Value} {n : Nat} (h : CanV w v n) (hb : Ext w w') : CanV w' v n := U32s.below h hb
theorem CanV.alloc {w : World} {v : Value} {n : Nat} (h : CanV w v n) (o : Obj) : CanV (w.alloc o) v n := U32s.alloc h o
theorem CanV.drew {w : World} {v : Value} {n : Nat} (h : CanV w v n) : CanV w.drew v n := U32s.drew h

/-- How many limbs there may be. -/
def Fit (n : Nat) : Prop := (limbsOf n).length ≤ 1099511627776

/-- Limbs whose value is n, whatever their size. -/
def NatV (w : World) (v : Value) (n : Nat) : Prop := ∃ xs, U32s w v xs ∧ (∀ x ∈ xs, x < 4294967296) ∧ xs.length ≤ 1099511627776 ∧ val xs = n
theorem NatV.form {w : World} {v : Value} {n : Nat} (h : NatV w v n) : ∃ A k c, v = .slice A k c := by
  obtain ⟨xs, ⟨A, c, rfl, _⟩, _⟩ := h
  exact ⟨_, _, _, rfl⟩
theorem NatV.below {w w' : World} {v : Value} {n : Nat} (h : NatV w v n) (hb : Ext w w') : NatV w' v n := by
  obtain ⟨xs, h1, h2⟩ := h
  exact ⟨xs, h1.below hb, h2⟩
theorem NatV.alloc {w : World} {v : Value} {n : Nat} (h : NatV w v n) (o : Obj) : NatV (w.alloc o) v n := h.below ((Below.refl _ _).alloc (Nat.le_refl _) o)
theorem NatV.drew {w : World} {v : Value} {n : Nat} (h : NatV w v n) : NatV w.drew v n := h.below (Below.refl _ _).drew
theorem CanV.nat {w : World} {v : Value} {n : Nat} (h : CanV w v n) (hf : Fit n) : NatV w v n :=
  ⟨_, h, fun x hx => by have := limbsOf_digs n x hx; omega, hf, val_limbsOf n⟩
theorem NatV.nil_ (w : World) : NatV w (.slice none 0 0) 0 := ⟨[], U32s.nil_ w, by simp, by simp, rfl⟩
theorem CanV.nil_ (w : World) : CanV w (.slice none 0 0) 0 := by unfold CanV; rw [limbsOf_zero]; exact U32s.nil_ w

/-- A struct Natural in canonical form. -/
def CanN (w : World) (r : Value) (n : Nat) : Prop := ∃ s, r = .agg #[s] ∧ CanV w s n
theorem CanN.below {w w' : World} {v : Value} {n : Nat} (h : CanN w v n) (hb : Ext w w') : CanN w' v n := by
  obtain ⟨s, h1, h2⟩ := h
  exact ⟨s, h1, h2.below hb⟩
/-- A struct Natural of that value. -/
def AnyN (w : World) (r : Value) (n : Nat) : Prop := ∃ s, r = .agg #[s] ∧ NatV w s n
theorem AnyN.below {w w' : World} {v : Value} {n : Nat} (h : AnyN w v n) (hb : Ext w w') : AnyN w' v n := by
  obtain ⟨s, h1, h2⟩ := h
  exact ⟨s, h1, h2.below hb⟩
theorem CanN.any {w : World} {v : Value} {n : Nat} (h : CanN w v n) (hf : Fit n) : AnyN w v n := by
  obtain ⟨s, h1, h2⟩ := h
  exact ⟨s, h1, h2.nat hf⟩

def New (B : Nat) (v : Value) : Prop := ∀ b, v.ownBlock = some b → B ≤ b
theorem New.mono {B B' : Nat} {v : Value} (h : New B v) (hB : B' ≤ B) : New B' v := fun b hb => by have := h b hb; omega
theorem New.nil_ (B : Nat) : New B (.slice none 0 0) := fun b h => by cases h
theorem New.at_ {B b o n c : Nat} (h : B ≤ b) : New B (.slice (some ⟨b, o, none⟩) n c) := fun b' h' => by cases h'; exact h
theorem New.same {B : Nat} {v v' : Value} (h : New B v) (e : v'.ownBlock = v.ownBlock) : New B v' := fun b hb => h b (by rw [← e]; exact hb)

/-- What a function that answers a Natural gives: canonical, in new memory. -/
def GivesN (w : World) (n : Nat) (e : Ending) (w' : World) : Prop := ∃ A k c, e = .returned (.agg #[.slice A k c]) ∧ CanV w' (.slice A k c) n ∧ Ext w w' ∧ New w.heap.size (.slice A k c)

/-- As 'Gives', and what comes back lies in new memory. -/
def GivesS (w : World) (R : World → Value → Prop) (e : Ending) (w' : World) : Prop := ∃ v, e = .returned v ∧ R w' v ∧ Ext w w' ∧ New w.heap.size v
/-- What a pure call gives: a name, so that the walk does not look in. -/
def Gives (w : World) (R : World → Value → Prop) (e : Ending) (w' : World) : Prop := ∃ v, e = .returned v ∧ R w' v ∧ Ext w w'

end Go.Proofs.YtkjcbfaimonaoaaDoor
