/- ref01: DivMod. ref01: DivMod of any, Gcd. -/
import Derived.Test.YtfnngchanhnaiaaDoorRefMul
import Derived.OneCell
import Derived.Deep.DeepCutAuto
import Derived.Test.YtfnngchanhnaiaaDoorNatural
import Derived.Deep.LoopGhost
set_option linter.unusedVariables false
set_option linter.unusedSimpArgs false
set_option maxRecDepth 100000
namespace Go.Proofs.YtfnngchanhnaiaaDoor
open Go.RowKit Num

/-- A box somewhere that holds a canonical natural. -/
def BoxAt (W wx : World) (s : Value) (n : Nat) : Prop :=
  ∃ b A k c, s = .pointer (some ⟨b, 0, none⟩) ∧ wx.cell? ⟨b, 0, none⟩ = some (.slice A k c) ∧ wx.frozen? ⟨b, 0, none⟩ = false ∧ CanV wx (.slice A k c) n ∧ Ext W wx ∧ W.heap.size ≤ b ∧ b < wx.heap.size ∧ (∀ u, CanV (wx.setCell ⟨b, 0, none⟩ u) (.slice A k c) n)

theorem cons_nat {w : World} {A : Option Addr} {c x R : Nat} (hk : 1 + (limbsOf R).length ≤ c) (hm : c ≤ 9223372036854775807) (hx : x < 1000000000) (h : Reads w 1 A (1 + (limbsOf R).length) (u32s [x] ++ u32s (limbsOf R))) (hl : (limbsOf R).length ≤ 549755813887) :
    NatV w (.slice A (1 + (limbsOf R).length) c) (R * 1000000000 + x) := by
  have hlen : (x :: limbsOf R).length = 1 + (limbsOf R).length := by simp; omega
  refine ⟨x :: limbsOf R, ⟨A, c, by rw [hlen], by rw [hlen]; exact hk, hm, ?_⟩, ?_, by rw [hlen]; omega, by rw [val, val_limbsOf]; omega⟩
  · rw [hlen]
    simpa [u32s] using h
  · intro z hz
    rcases List.mem_cons.1 hz with rfl | hz
    · omega
    · have := limbsOf_digs R z hz; omega

theorem BoxAt.alloc {W w6 : World} {A : Option Addr} {k c n : Nat} (hE : Ext W w6) (h : CanV w6 (.slice A k c) n) (t : TypeId) :
    BoxAt W (w6.alloc (.cells #[.slice A k c] t)) (.pointer (some ⟨w6.heap.size, 0, none⟩)) n := by
  refine ⟨w6.heap.size, A, k, c, rfl, by simp [go_sem], by simp [go_sem], h.alloc _, ext_alloc hE _, hE.size, by simp, fun u => ?_⟩
  exact h.below (ext_set (ext_alloc (Below.refl _ _) _) (Nat.le_refl _) _)
theorem BoxAt.set {W w6 : World} {A : Option Addr} {k c n b : Nat} {u : Value} (hE : Ext W w6) (h : CanV w6 (.slice A k c) n) (hb : W.heap.size ≤ b) (hc : w6.cell? ⟨b, 0, none⟩ = some u) (hf : w6.frozen? ⟨b, 0, none⟩ = false) (hn : New (b + 1) (.slice A k c)) :
    BoxAt W (w6.setCell ⟨b, 0, none⟩ (.slice A k c)) (.pointer (some ⟨b, 0, none⟩)) n := by
  refine ⟨b, A, k, c, rfl, World.cell?_setCell_same _ _ _ hc, by rw [World.frozen?_setCell]; exact hf, U32s.setNew h hn (Nat.lt_succ_self _) _, ext_set hE hb _, hb, by simpa using World.block_lt_of_cell? _ _ hc, fun u => ?_⟩
  exact (U32s.setNew h hn (Nat.lt_succ_self _) _).setNew hn (Nat.lt_succ_self _) _

end Go.Proofs.YtfnngchanhnaiaaDoor
namespace Go.Proofs.YtfnngchanhnaiaaDoor
open Go.RowKit Num

end Go.Proofs.YtfnngchanhnaiaaDoor
