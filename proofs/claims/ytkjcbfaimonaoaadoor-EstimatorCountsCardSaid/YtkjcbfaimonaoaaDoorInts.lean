/- Lists of integers: what a call gives; base.Ints; slices.Clip. -/
import Derived.Test.YtkjcbfaimonaoaaDoorProg
import Derived.Test.YtkjcbfaimonaoaaDoorKeep
import Derived.Test.YtkjcbfaimonaoaaDoorList
import Derived.Test.YtkjcbfaimonaoaaDoorBoxes
import Derived.BigQuiet
import Derived.Deep.QuietTactic
set_option linter.unusedVariables false
set_option linter.unusedSimpArgs false
set_option maxRecDepth 100000
namespace Go.Proofs.YtkjcbfaimonaoaaDoor
open Go.RowKit Num

theorem info_int : (Tryd.prog.info? 3).map (fun i => (i.zero, i.size, i.bytes)) = some (some (.int .i64 0), 1, 8) := by kernel_rfl

def i64l (zs : List Int) : List Value := zs.map (Value.int .i64)
theorem i64l_snoc (zs : List Int) (z : Int) : i64l zs ++ [.int .i64 z] = i64l (zs ++ [z]) := by simp [i64l]
theorem i64l_length (zs : List Int) : (i64l zs).length = zs.length := by simp [i64l]
theorem i64l_get (zs : List Int) {k : Nat} (hk : k < zs.length) : (i64l zs)[k]? = some (.int .i64 (zs.getD k 0)) := by
  unfold i64l
  rw [List.getElem?_map, List.getElem?_eq_getElem hk]
  simp [hk]

/-- A slice of int that reads as a list. -/
def IntsV (w : World) (v : Value) (zs : List Int) : Prop := ∃ A c, v = .slice A zs.length c ∧ zs.length ≤ c ∧ c ≤ 9223372036854775807 ∧ Reads w 1 A zs.length (i64l zs)
theorem IntsV.below {w w' : World} {v : Value} {zs : List Int} (h : IntsV w v zs) (hb : Ext w w') : IntsV w' v zs := by
  obtain ⟨A, c, h1, h2, h3, h4⟩ := h
  exact ⟨A, c, h1, h2, h3, h4.below hb⟩
theorem IntsV.nil_ (w : World) : IntsV w (.slice none 0 0) [] := ⟨none, 0, rfl, Nat.le_refl _, by omega, Reads.nil_⟩
theorem KInts.ints {w : World} {v : Value} {zs : List Int} (h : KInts .i64 w v zs) : IntsV w v zs := by
  obtain ⟨A, c, h1, h2, h3, h4, _⟩ := h
  exact ⟨A, c, h1, h2, h3, h4⟩
theorem IntsV.of_own {w : World} {base : Nat} {e : TypeId} {v : Value} {n : Nat} {zs : List Int} (h : w.ownsRow base e 1 v n (i64l zs)) : IntsV w v zs := by
  have hl : zs.length = n := by have := h.1; simpa [i64l_length] using this
  subst hl
  rcases h.2 with ⟨rfl, h0⟩ | ⟨g, cap, cur, rfl, _, _, hc, hm, _, _⟩
  · have : zs = [] := List.eq_nil_of_length_eq_zero h0
    subst this
    exact IntsV.nil_ w
  · exact ⟨_, cap, rfl, hc, hm, Reads.of_own h⟩
theorem IntsV.at_ {w : World} {A : Option Addr} {n c : Nat} {zs : List Int} (h : IntsV w (.slice A n c) zs) {k : Nat} (hk : k < zs.length) :
    ∃ ad, A = some ad ∧ ad.block < w.heap.size ∧ w.cell? (ad.add k) = some (.int .i64 (zs.getD k 0)) := by
  obtain ⟨A', c', e, _, _, hr⟩ := h
  injection e with e1 e2 e3
  subst e1
  obtain ⟨ad, u, h1, h2, h3, h4⟩ := hr.at_ hk
  rw [i64l_get zs hk] at h3
  cases h3
  exact ⟨ad, h1, h2, h4⟩

/-- What a call that answers ([]int, Errno) gives. -/
def GivesI (w : World) (zs : List Int) (er : Int) (e : Ending) (w' : World) : Prop :=
  ∃ A c, e = .returned (.tuple #[.slice A zs.length c, .int .i64 er]) ∧ IntsV w' (.slice A zs.length c) zs ∧ Ext w w' ∧ New w.heap.size (.slice A zs.length c)
theorem GivesI.none_ {w w' : World} {er : Int} (h : Ext w w') : GivesI w [] er (.returned (.tuple #[.slice none 0 0, .int .i64 er])) w' := ⟨none, 0, rfl, IntsV.nil_ _, h, New.nil_ _⟩

set_option maxHeartbeats 1000000 in
theorem bints_same {x y : Value} {zs : List Int} {w : World} (hx : IntsV w x zs) (hy : IntsV w y zs) :
    Calls Tryd.prog 18 #[x, y] w (fun e w' => e = .returned (.bool true) ∧ Ext w w') := by
  obtain ⟨A, ca, rfl, a1, a2, a3⟩ := id hx
  obtain ⟨B, cb, rfl, b1, b2, b3⟩ := id hy
  clear a3 b3
  go_enter Tryd.func18, Tryd.ntmps18
  go_wp2
  go_loopw [5] (fun iv wr => ∃ k : Nat, k ≤ zs.length ∧ iv = .int .i64 k ∧ Ext w wr) (fun iv _ => zs.length - (intOf iv).toNat)
  case atStart => exact ⟨0, Nat.zero_le _, rfl, Below.refl _ _⟩
  case round =>
    obtain ⟨k, hk, rfl, hr⟩ := hrel
    by_cases hkl : k < zs.length
    · obtain ⟨ad, rfl, hb1, hc1⟩ := (hx.below hr).at_ hkl
      obtain ⟨bd, rfl, hb2, hc2⟩ := (hy.below hr).at_ hkl
      generalize zs.getD k 0 = z at *
      go_wp2
      go_quiet (fail)
      go_wp2
      go_roundw
      case rel => exact ⟨k + 1, by omega, by go_num, hr.drewN _⟩
      case measure => simp [intOf]; omega
    · go_wp2
      go_ret
      exact ⟨rfl, hr⟩

end Go.Proofs.YtkjcbfaimonaoaaDoor
