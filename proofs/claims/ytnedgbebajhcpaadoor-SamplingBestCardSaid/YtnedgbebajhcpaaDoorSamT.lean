/- What a call leaves alone that writes two boxes of its caller's. No function is named here. -/
import Derived.Test.YtnedgbebajhcpaaDoorOccAw
import Derived.Test.YtnedgbebajhcpaaDoorKeep
import Derived.Test.YtnedgbebajhcpaaDoorFrlS
import Derived.Test.YtnedgbebajhcpaaDoorSamA
set_option linter.unusedVariables false
set_option linter.unusedSimpArgs false
namespace Go.Proofs.YtnedgbebajhcpaaDoor
open Go.RowKit Num

/-- But for the blocks X and Y, w' is as w was. -/
structure TExt (X Y : Nat) (w w' : World) : Prop where
  os : w'.os = w.os
  tape : w'.tape = w.tape
  output : w'.output = w.output
  size : w.heap.size ≤ w'.heap.size
  block : ∀ k, k < w.heap.size → k ≠ X → k ≠ Y → w'.heap[k]? = w.heap[k]?
section
variable {X Y : Nat} {w w' w'' : World}
theorem TExt.refl (X Y : Nat) (w : World) : TExt X Y w w := ⟨rfl, rfl, rfl, Nat.le_refl _, fun _ _ _ _ => rfl⟩
theorem TExt.trans (h : TExt X Y w w') (k : TExt X Y w' w'') : TExt X Y w w'' :=
  ⟨k.os.trans h.os, k.tape.trans h.tape, k.output.trans h.output, Nat.le_trans h.size k.size, fun i hi hx hy => (k.block i (Nat.lt_of_lt_of_le hi h.size) hx hy).trans (h.block i hi hx hy)⟩
theorem TExt.of_ext (h : Ext w w') : TExt X Y w w' := ⟨h.os, h.tape, h.output, h.size, fun k hk _ _ => h.block k hk⟩
theorem TExt.drew (h : TExt X Y w w') : TExt X Y w w'.drew := ⟨h.os, h.tape, h.output, h.size, h.block⟩
theorem TExt.set (h : TExt X Y w w') {p : Addr} (hp : p.block = X ∨ p.block = Y) (u : Value) : TExt X Y w (w'.setCell p u) :=
  h.trans ⟨rfl, rfl, rfl, by simp [World.setCell], fun k _ hx hy => Below.heap_setCell _ _ _ _ (by rcases hp with hp | hp <;> omega)⟩
theorem TExt.cell (h : TExt X Y w w') {p : Addr} (hp : p.block < w.heap.size) (hx : p.block ≠ X) (hy : p.block ≠ Y) : w'.cell? p = w.cell? p := World.cell?_of_block (w := w) (h.block p.block hp hx hy)
theorem TExt.frozen (h : TExt X Y w w') {p : Addr} (hp : p.block < w.heap.size) (hx : p.block ≠ X) (hy : p.block ≠ Y) : w'.frozen? p = w.frozen? p := World.frozen?_of_block (w := w) (h.block p.block hp hx hy)
/-- What lies below the two blocks is as it was. -/
theorem TExt.ext {w0 : World} (h0 : Ext w0 w) (h : TExt X Y w w') (hx : w0.heap.size ≤ X) (hy : w0.heap.size ≤ Y) : Ext w0 w' :=
  Below.trans h0 ⟨h.os, h.tape, h.output, h.size, fun k hk => h.block k (Nat.lt_of_lt_of_le hk h0.size) (by omega) (by omega)⟩
/-- A value's row is neither of the two blocks. -/
def Apart (X Y : Nat) (v : Value) : Prop := ∀ g, v.ownBlock = some g → g ≠ X ∧ g ≠ Y
theorem Apart.nil_ : Apart X Y (.slice none 0 0) := fun g h => by cases h
theorem Apart.below {v : Value} {B : Nat} (h : ∀ g, v.ownBlock = some g → g < B) (hx : B ≤ X) (hy : B ≤ Y) : Apart X Y v := fun g hg => by have := h g hg; omega
theorem Apart.above {v : Value} {B : Nat} (h : New B v) (hx : X < B) (hy : Y < B) : Apart X Y v := fun g hg => by have := h g hg; omega
theorem Reads.text {size n : Nat} {A : Option Addr} {xs : List Value} {c : Nat} (h : Reads w size A n xs) (ht : TExt X Y w w') (ha : Apart X Y (.slice A n c)) : Reads w' size A n xs :=
  ⟨h.1, fun hn => by
    obtain ⟨ad, e, hb, hc⟩ := h.2 hn
    subst e
    have hg := ha ad.block (by simp [Value.ownBlock])
    exact ⟨ad, rfl, Nat.lt_of_lt_of_le hb ht.size, fun j u hu => (ht.cell (by rw [block_of_add]; exact hb) (by rw [block_of_add]; exact hg.1) (by rw [block_of_add]; exact hg.2)).trans (hc j u hu)⟩⟩
theorem IntsV.text {v : Value} {zs : List Int} (h : IntsV w v zs) (ht : TExt X Y w w') (ha : Apart X Y v) : IntsV w' v zs := by
  obtain ⟨A, c, rfl, h2, h3, h4⟩ := h
  exact ⟨A, c, rfl, h2, h3, h4.text ht ha⟩
theorem CanV.text {v : Value} {n : Nat} (h : CanV w v n) (ht : TExt X Y w w') (ha : Apart X Y v) : CanV w' v n := by
  obtain ⟨A, c, rfl, h2, h3, h4⟩ := h
  exact ⟨A, c, rfl, h2, h3, h4.text ht ha⟩
theorem FracV.text {b : Bool} {s t : Value} {q : Rat} (h : FracV w b s t q) (ht : TExt X Y w w') (h1 : Apart X Y s) (h2 : Apart X Y t) : FracV w' b s t q := ⟨h.1, h.2.1.text ht h1, h.2.2.text ht h2⟩
end

/-- append to a slice that is full, at a step. -/
theorem wp_append_full {P : Program} {Q : Exit → Act → World → Prop} (w : World) {o : Oper} {a : Act} {K : Act → World → Prop} (s x : Operand) (t : TypeId)
    (hop : o.op = .call { callee := .builtin .append, args := #[s, x], argTypes := #[t, t] })
    (e : TypeId) (i : TypeInfo) (z : Value) (size bytes : Nat) (ht : P.underlying t = some (.slice e)) (hi : P.info? e = some i) (hz : i.zero = some z)
    (hsize : i.size = size) (hby : i.bytes = bytes) (hzs : z.cells.size = size) (hsz : 0 < size)
    (ao bo : Option Addr) (n m c : Nat) (olds news : List Value) (hs : a.eval s = .slice ao n n) (hx : a.eval x = .slice bo m c) (ho : Reads w size ao n olds) (hr : Reads w size bo m news) (h1 : ∀ u ∈ news, u.oneCell' = true)
    (h63 : n + m ≤ maxLen) (hbytes : (n + m) * bytes ≤ 140737488355328)
    (h : ∀ ao' cap' w', n + m ≤ cap' → cap' ≤ 9223372036854775807 → Reads w' size ao' (n + m) (olds ++ news) → Ext w w' → (∀ ad, ao' = some ad → ao = some ad ∨ w.heap.size ≤ ad.block) → K (a.put o.dst (.slice ao' (n + m) cap')) w') :
    Oper.wp P o a w K Q := by
  obtain ⟨ao', cap', w', hrun, k1, k2, k3, k4, k5⟩ := run_append_full (P := P) w t o.type e i z size bytes ht hi hz hsize hby hzs hsz ao bo n m c olds news ho hr h1 h63 hbytes
  unfold Oper.wp
  simp [execOp, hop, resolve, invoke, builtin, hs, hx, hrun, Result.andThen]
  exact h _ _ _ k1 k2 k3 k4 k5
def natsS (l : List Nat) : List Int := l.map (fun c : Nat => (c : Int))
theorem natsS_length (l : List Nat) : (natsS l).length = l.length := by simp [natsS]
theorem natsS_snoc (l : List Nat) (x : Nat) : natsS (l ++ [x]) = natsS l ++ [(x : Int)] := by simp [natsS]
theorem getD_natsS {l : List Nat} {k : Nat} (hk : k < l.length) : (natsS l).getD k 0 = ((at0 l k : Nat) : Int) := by
  unfold natsS at0
  rw [List.getD_eq_getElem?_getD, List.getD_eq_getElem?_getD, List.getElem?_map, List.getElem?_eq_getElem hk]
  rfl
/-- A plan: from 1 to 4 series of 1 to 60 dies. -/
def PlanN (D : List Nat) : Prop := (1 ≤ D.length ∧ D.length ≤ 4) ∧ ∀ d ∈ D, 1 ≤ d ∧ d ≤ 60
theorem at0_mem {l : List Nat} {i : Nat} (h : i < l.length) : at0 l i ∈ l := by
  unfold at0
  rw [List.getD_eq_getElem?_getD, List.getElem?_eq_getElem h]
  exact List.getElem_mem h
theorem gain_fb {D l : List Nat} {m : Nat} (hD : PlanN D) (hm : m ≤ D.length) (hlen : l.length = D.length) (hl : ∀ x ∈ l, x ≤ 30) : FB (gainQ (at0 D) (at0 l) m) 200 := by
  have h := sumQ_fb (f := fun i => meanQ (at0 l i) (at0 D i)) (L := 38) (n := m) fun k hk => meanQ_fb (hl _ (at0_mem (by omega))) (hD.2 _ (at0_mem (by omega))).1 (hD.2 _ (at0_mem (by omega))).2
  exact FB.mono h (by have := hD.1.2; omega)
theorem gl_fb {D l : List Nat} (hD : PlanN D) (hlen : l.length = D.length) (hl : ∀ x ∈ l, x ≤ 30) : FB (gl D l) 200 := gain_fb hD (Nat.le_refl _) hlen hl
theorem best_visit {D : List Nat} {m : Nat} : bestL D m = visit (gl D) (D.length - 1) [] m ([], -1) := by rw [visit_nil]; rfl
theorem split_awake : (bestL [1, 5] 3).1 = [1, 2] := bestL_awake

end Go.Proofs.YtnedgbebajhcpaaDoor
