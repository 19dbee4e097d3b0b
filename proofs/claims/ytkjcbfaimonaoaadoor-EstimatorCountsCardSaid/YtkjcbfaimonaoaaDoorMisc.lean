/- Pieces that many walks share. -/
import Derived.Test.YtkjcbfaimonaoaaDoorNatural
import Derived.Test.YtkjcbfaimonaoaaDoorBoxes
set_option linter.unusedVariables false
set_option linter.unusedSimpArgs false
set_option maxRecDepth 100000
namespace Go.Proofs.YtkjcbfaimonaoaaDoor
open Go.RowKit Num

/-- The answer's box: the call's first block. -/
theorem res_box {w w1 : World} {v u : Value} {n : Nat} (hE : Ext w w1) (h : CanV w1 v n) (hn : New (w.heap.size + 1) v) :
    CanV (w1.setCell ⟨w.heap.size, 0, none⟩ u) v n ∧ Ext w (w1.setCell ⟨w.heap.size, 0, none⟩ u) ∧ New w.heap.size v :=
  ⟨U32s.setNew h hn (Nat.lt_succ_self _) _, hE.setCell (Nat.le_refl _) _, hn.mono (by omega)⟩
theorem box_new {w w1 : World} {v : Value} {t : TypeId} (x1 : Ext (w.alloc (.cells #[v] t)) w1) : w1.cell? ⟨w.heap.size, 0, none⟩ = some v ∧ w1.frozen? ⟨w.heap.size, 0, none⟩ = false :=
  ⟨by rw [x1.cell (p := ⟨w.heap.size, 0, none⟩) (by simp)]; simp [go_sem], by rw [x1.frozen (p := ⟨w.heap.size, 0, none⟩) (by simp)]; simp [go_sem]⟩
theorem ext_new {w w1 : World} {o : Obj} (x1 : Ext (w.alloc o) w1) : Ext w w1 := (ext_alloc (Below.refl _ _) o).trans x1

/-- A box that holds a canonical Natural. -/
def OutB (W : World) (b B n : Nat) (wr : World) : Prop :=
  ∃ A m c, wr.cell? ⟨b, 0, none⟩ = some (.slice A m c) ∧ wr.frozen? ⟨b, 0, none⟩ = false ∧ CanV wr (.slice A m c) n ∧ Ext W wr ∧ New B (.slice A m c)
theorem OutB.ext {W : World} {b B n : Nat} {wr : World} (h : OutB W b B n wr) : Ext W wr := by obtain ⟨_, _, _, _, _, _, h, _⟩ := h; exact h
theorem OutB.start {W : World} {A : Option Addr} {m c n B : Nat} (h : CanV W (.slice A m c) n) (hn : New B (.slice A m c)) (t : TypeId) : OutB W W.heap.size B n (W.alloc (.cells #[.slice A m c] t)) :=
  ⟨A, m, c, by simp [go_sem], by simp [go_sem], h.alloc _, ext_alloc (Below.refl _ _) _, hn⟩
theorem OutB.set {W w6 : World} {A : Option Addr} {m c n B B' b : Nat} {u : Value} (hc : w6.cell? ⟨b, 0, none⟩ = some u) (hf : w6.frozen? ⟨b, 0, none⟩ = false) (h : CanV w6 (.slice A m c) n) (hE : Ext W w6) (hn : New B' (.slice A m c)) (hb : b < B') (hB : B ≤ B') (hW : W.heap.size ≤ b) :
    OutB W b B n (w6.setCell ⟨b, 0, none⟩ (.slice A m c)) :=
  ⟨A, m, c, World.cell?_setCell_same _ _ _ hc, by rw [World.frozen?_setCell]; exact hf, U32s.setNew h hn hb _, ext_set hE hW _, hn.mono hB⟩
theorem fit_small {n : Nat} (h : n < 1000000000) : Fit n := by unfold Fit; have := len_small h; omega

theorem wrap_in {z : Int} (h : -9223372036854775808 ≤ z ∧ z ≤ 9223372036854775807) : IntKind.i64.wrap z = z := by rw [IntKind.wrap_i64]; omega

/-- A Natural and an error number. -/
def GivesT (w : World) (n : Nat) (er : Int) (e : Ending) (w' : World) : Prop :=
  ∃ A k c, e = .returned (.tuple #[.agg #[.slice A k c], .int .i64 er]) ∧ CanV w' (.slice A k c) n ∧ Ext w w' ∧ New w.heap.size (.slice A k c)
theorem GivesT.zero {w : World} {er : Int} {t : TypeId} {u : Value} : GivesT w 0 er (.returned (.tuple #[.agg #[.slice none 0 0], .int .i64 er])) (w.alloc (.cells #[u] t)) :=
  ⟨none, 0, 0, rfl, CanV.nil_ _, ext_alloc (Below.refl _ _) _, New.nil_ _⟩

def okE (p : Prop) [Decidable p] : Int := if p then 0 else 2

/-- The end: the answer stored in its box. -/
theorem GivesT.box {w w1 : World} {A : Option Addr} {m c n : Nat} {er : Int} (hE : Ext w w1) (h : CanV w1 (.slice A m c) n) (hn : New (w.heap.size + 1) (.slice A m c)) :
    GivesT w n er (.returned (.tuple #[.agg #[.slice A m c], .int .i64 er])) (w1.setCell ⟨w.heap.size, 0, none⟩ (.slice A m c)) := by
  obtain ⟨r1, r2, r3⟩ := res_box (u := .slice A m c) hE h hn
  exact ⟨_, _, _, rfl, r1, r2, r3⟩

theorem cell_one (W : World) (u : Value) (t : TypeId) : ∀ j x, [u][j]? = some x → (W.alloc (.cells #[u] t)).cell? ((⟨W.heap.size, 0, none⟩ : Addr).add j) = some x := by
  intro j x hx
  match j, hx with
  | 0, hx => simp at hx; subst hx; simp [Addr.add, go_sem]

theorem cmpN_self (n : Nat) : cmpN n n = 0 := by simp [cmpN]
theorem cmp_same {x y : Value} {n : Nat} {w : World} (hx : NatV w x n) (hy : NatV w y n) :
    Calls Tryd.prog 47 #[.agg #[x], .agg #[y]] w (fun e w' => e = .returned (.int .i64 0) ∧ Ext w w') := by
  have := cmp_n hx hy
  rwa [cmpN_self] at this

theorem nof_e {z : Int} {m : Nat} {w : World} (he : z = (m : Int)) (hm : m < 18446744073709551616) : Calls Tryd.prog 71 #[.int .u64 z] w (GivesN w m) := by
  subst he; exact of_n hm

end Go.Proofs.YtkjcbfaimonaoaaDoor
