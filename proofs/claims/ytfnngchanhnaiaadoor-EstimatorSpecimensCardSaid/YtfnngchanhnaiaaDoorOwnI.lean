/- A row of int that the call made. No function is named here. -/
import Derived.Test.YtfnngchanhnaiaaDoorKeep
set_option linter.unusedVariables false
set_option linter.unusedSimpArgs false
set_option maxRecDepth 100000
namespace Go.Proofs.YtfnngchanhnaiaaDoor
open Go.RowKit Num

theorem i64l_setI (zs : List Int) (k : Nat) (z : Int) : (i64l zs).set k (.int .i64 z) = i64l (zs.set k z) := by unfold i64l; rw [List.map_set]
theorem i64l_zerosI (n : Nat) : (madeCells #[Value.int .i64 0] n).toList = i64l (List.replicate n 0) := by
  refine List.ext_getElem (by simp [madeCells, Value.cells, i64l]) fun i h1 h2 => ?_
  simp [madeCells, Value.cells, i64l, Nat.mod_one]
/-- A row of int that the call made. -/
def OwnI (base : Nat) (w : World) (g n : Nat) (xs : List Int) : Prop := w.ownsRow base 3 1 (.slice (some ⟨g, 0, none⟩) n n) n (i64l xs)
theorem OwnI.ext {base g n : Nat} {w w' : World} {xs : List Int} (h : OwnI base w g n xs) (hE : Ext w w') : OwnI base w' g n xs :=
  World.ownsRow.kept h (Ext.grown hE) (.inr (by simp [Value.ownBlock]))
theorem OwnI.put {base g n k : Nat} {w : World} {xs : List Int} (h : OwnI base w g n xs) (z : Int) : OwnI base (w.setCell ⟨g, k, none⟩ (.int .i64 z)) g n (xs.set k z) := by
  have h1 := (World.ownsRow.stored h k (.int .i64 z)).1
  rw [i64l_setI] at h1
  exact h1
theorem OwnI.away {base g g' n k : Nat} {w : World} {xs : List Int} (h : OwnI base w g n xs) {n' : Nat} {ys : List Int} (h' : OwnI base w g' n' ys) (hne : g ≠ g') (z : Value) : OwnI base (w.setCell ⟨g', k, none⟩ z) g n xs :=
  World.ownsRow.kept h (World.ownsRow.stored h' k z).2 (.inr (by simp [Value.ownBlock]; exact hne))
theorem OwnI.cell {base g n k : Nat} {w : World} {xs : List Int} (h : OwnI base w g n xs) (hl : xs.length = n) (hk : k < n) : ∃ z, w.cell? ⟨g, k, none⟩ = some (.int .i64 z) ∧ w.frozen? ⟨g, k, none⟩ = false :=
  ⟨xs.getD k 0, (World.ownsRow.cellAt h k (by omega)).trans (i64l_get xs (by omega)), World.ownsRow.frozenAt h k⟩

/-- make([]T, n), at a step. -/
theorem wp_make_full {P : Program} {Q : Exit → Act → World → Prop} (w : World) {o : Oper} {a : Act} {K : Act → World → Prop} (l c : Operand) (t : TypeId) (hop : o.op = Op.makeSlice t l c)
    (base : Nat) (e : TypeId) (i : TypeInfo) (z : Value) (size : Nat) (h1 : P.underlying t = some (.slice e)) (h2 : P.info? e = some i) (h3 : i.zero = some z) (h4 : i.size = size)
    (kl kc : IntKind) (L C : Int) (n : Nat) (hl : a.eval l = .int kl L) (hc : a.eval c = .int kc C) (hL : L = (n : Int)) (hC : C = (n : Int)) (b2 : i.bytes * n ≤ 281474976710656) (b3 : n ≤ maxLen) (b4 : base ≤ w.heap.size)
    (hK : ∀ w', w'.ownsRow base e size (.slice (some ⟨w.heap.size, 0, none⟩) n n) n (madeCells z.cells (n * size)).toList → w.grownBy w' none → K (a.put o.dst (.slice (some ⟨w.heap.size, 0, none⟩) n n)) w') :
    Oper.wp P o a w K Q := by
  obtain ⟨w', hrun, r1, r2⟩ := run_make_full (P := P) w base t e i z size h1 h2 h3 h4 kl kc n b2 b3 b4
  subst hL
  subst hC
  unfold Oper.wp
  simp [execOp, hop, hl, hc, hrun, Result.andThen]
  exact hK w' r1 r2
theorem OwnI.at_ {base g n k : Nat} {w : World} {xs : List Int} (h : OwnI base w g n xs) (hl : xs.length = n) (hk : k < n) : w.cell? ⟨g, k, none⟩ = some (.int .i64 (xs.getD k 0)) ∧ w.frozen? ⟨g, k, none⟩ = false :=
  ⟨(World.ownsRow.cellAt h k (by omega)).trans (i64l_get xs (by omega)), World.ownsRow.frozenAt h k⟩
theorem OwnI.len {base g n : Nat} {w : World} {xs : List Int} (h : OwnI base w g n xs) : xs.length = n := by have := h.1; simpa [i64l_length] using this
theorem OwnI.blk {base g n : Nat} {w : World} {xs : List Int} (h : OwnI base w g n xs) : g < w.heap.size := (World.ownsRow.lt h g rfl).2

end Go.Proofs.YtfnngchanhnaiaaDoor
