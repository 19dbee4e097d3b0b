/- append to a slice that has no room left. No program is named here. -/
import Derived.Test.YtkjcbfaimonaoaaDoorRep
import Derived.Deep.RegionLaw
set_option linter.unusedVariables false
set_option linter.unusedSimpArgs false
namespace Go.Proofs.YtkjcbfaimonaoaaDoor
open Go.RowKit Num

section
variable {P : Program} (w : World)

theorem run_append_zero (t ty e : TypeId) (i : TypeInfo) (ht : P.underlying t = some (.slice e)) (hi : P.info? e = some i) (ao bo : Option Addr) (n cap c : Nat) (hn : n ≤ cap) :
    (Builtin.append_ #[t, t] ty #[.slice ao n cap, .slice bo 0 c]).run P w = .ok (.slice ao n cap) w := by
  have hf : ∀ a : Addr, (Builtin.firstCells i.size 0 (.slice (some a) 0 c)).run P w = .ok #[] w := fun a => run_firstCells_some (P := P) w i.size 0 a 0 c [] (by simp) (by simp)
  have hf0 : (Builtin.firstCells i.size 0 (.slice none 0 c)).run P w = .ok #[] w := by simp [Builtin.firstCells]
  cases ao <;> cases bo <;> simp [Builtin.append_, run_underlying ht, sizeOf, typeInfo, hi, Builtin.lenOf, hf, hf0, hn, storeCells]

/-- The slice is full: what comes back reads as both, and only new memory has been made. -/
theorem run_append_full (t ty e : TypeId) (i : TypeInfo) (z : Value) (size bytes : Nat) (ht : P.underlying t = some (.slice e)) (hi : P.info? e = some i) (hz : i.zero = some z)
    (hsize : i.size = size) (hby : i.bytes = bytes) (hzs : z.cells.size = size) (hsz : 0 < size)
    (ao bo : Option Addr) (n m c : Nat) (olds news : List Value) (ho : Reads w size ao n olds) (hr : Reads w size bo m news) (h1 : ∀ u ∈ news, u.oneCell' = true)
    (h63 : n + m ≤ maxLen) (hbytes : (n + m) * bytes ≤ 140737488355328) :
    ∃ ao' cap' w', (Builtin.append_ #[t, t] ty #[.slice ao n n, .slice bo m c]).run P w = .ok (.slice ao' (n + m) cap') w' ∧ n + m ≤ cap' ∧ cap' ≤ 9223372036854775807 ∧ Reads w' size ao' (n + m) (olds ++ news) ∧ Ext w w' ∧ (∀ ad, ao' = some ad → ao = some ad ∨ w.heap.size ≤ ad.block) := by
  rcases Nat.eq_zero_or_pos m with hm | hm
  · subst hm
    have : news = [] := List.eq_nil_of_length_eq_zero (by simpa using hr.1)
    subst this
    exact ⟨ao, n, w, run_append_zero w t ty e i ht hi ao bo n n c (Nat.le_refl _), by omega, by unfold maxLen at h63; omega, by simpa using ho, Below.refl _ _, fun ad h => .inl h⟩
  · obtain ⟨ad, rfl, _, hc⟩ := hr.2 hm
    have key : ∃ v' w', (Builtin.append_ #[t, t] ty #[.slice ao n n, .slice (some ad) m c]).run P w = .ok v' w' ∧ w'.ownsRow w.heap.size e size v' (n + m) (olds ++ news) ∧ w.grownBy w' none := by
      rcases Nat.eq_zero_or_pos n with hn | hn
      · subst hn
        have : olds = [] := List.eq_nil_of_length_eq_zero (by simpa using ho.1)
        subst this
        cases ao with
        | none =>
          obtain ⟨v', w', h2, h3, h4, _⟩ := run_append_own (P := P) w w.heap.size t ty e i z size bytes ht hi hz hsize hby hzs hsz (.slice none 0 0) 0 [] (World.ownsRow_nil w _ e size) ad m c news hr.1 hc h1 h63 hbytes (Nat.le_refl _)
          exact ⟨v', w', h2, h3, h4⟩
        | some b => exact run_append_arg_grows (P := P) w t ty e i z size bytes ht hi hz hsize hby hzs hsz b 0 0 [] (by simp) (by simp) ad m c news hr.1 hc (by omega) h63 hbytes
      · obtain ⟨b, rfl, _, hb⟩ := ho.2 hn
        exact run_append_arg_grows (P := P) w t ty e i z size bytes ht hi hz hsize hby hzs hsz b n n olds ho.1 hb ad m c news hr.1 hc (by omega) h63 hbytes
    obtain ⟨v', w', h2, h3, h4⟩ := key
    obtain ⟨g, cap', rfl, hbg, _⟩ := h3.form (by omega)
    have hcc : n + m ≤ cap' ∧ cap' ≤ 9223372036854775807 := by
      rcases h3.2 with ⟨h, _⟩ | ⟨g', cap2, cur, h, _, _, h5, h6, _, _⟩
      · cases h
      · injection h with _ _ h
        subst h
        exact ⟨h5, h6⟩
    exact ⟨_, cap', w', h2, hcc.1, hcc.2, Reads.of_own h3, (Below.refl _ _).grown h4 (Nat.le_refl _) (by simp), fun ad h => .inr (by injection h with h; subst h; exact hbg)⟩
end

/-- At a step of a region that draws its order, and in a list of operations. -/
theorem step_append_full {P : Program} (w : World) {ops : Array Oper} {o : Oper} {a : Act} {K : Act → World → Prop} {Q : Exit → Act → World → Prop} {E : Prop} (hgd : o.guard = none) (s x : Operand) (t : TypeId)
    (hop : o.op = .call { callee := .builtin .append, args := #[s, x], argTypes := #[t, t] })
    (e : TypeId) (i : TypeInfo) (z : Value) (size bytes : Nat) (ht : P.underlying t = some (.slice e)) (hi : P.info? e = some i) (hz : i.zero = some z)
    (hsize : i.size = size) (hby : i.bytes = bytes) (hzs : z.cells.size = size) (hsz : 0 < size)
    (ao bo : Option Addr) (n m c : Nat) (olds news : List Value) (hs : a.eval s = .slice ao n n) (hx : a.eval x = .slice bo m c) (ho : Reads w size ao n olds) (hr : Reads w size bo m news) (h1 : ∀ u ∈ news, u.oneCell' = true)
    (h63 : n + m ≤ maxLen) (hbytes : (n + m) * bytes ≤ 140737488355328)
    (h : ∀ ao' cap' w', n + m ≤ cap' → cap' ≤ 9223372036854775807 → Reads w' size ao' (n + m) (olds ++ news) → Ext w w' → (∀ ad, ao' = some ad → ao = some ad ∨ w.heap.size ≤ ad.block) → K (a.put o.dst (.slice ao' (n + m) cap')) w') :
    if Region.wanted o (yielded ops a.tmps) = true then Oper.wp P o a w K Q else E := by
  have hw : Region.wanted o (yielded ops a.tmps) = true := by simp [Region.wanted, hgd]
  rw [if_pos hw]
  obtain ⟨ao', cap', w', hrun, k1, k2, k3, k4, k5⟩ := run_append_full (P := P) w t o.type e i z size bytes ht hi hz hsize hby hzs hsz ao bo n m c olds news ho hr h1 h63 hbytes
  unfold Oper.wp
  simp [execOp, hop, resolve, invoke, builtin, hs, hx, hrun, Result.andThen]
  exact h _ _ _ k1 k2 k3 k4 k5

theorem wpList_append_full {P : Program} (w : World) {ops : Array Oper} {rest : List Oper} {o : Oper} {a : Act} {Q : Exit → Act → World → Prop} (hgd : o.guard = none) (s x : Operand) (t : TypeId)
    (hop : o.op = .call { callee := .builtin .append, args := #[s, x], argTypes := #[t, t] })
    (e : TypeId) (i : TypeInfo) (z : Value) (size bytes : Nat) (ht : P.underlying t = some (.slice e)) (hi : P.info? e = some i) (hz : i.zero = some z)
    (hsize : i.size = size) (hby : i.bytes = bytes) (hzs : z.cells.size = size) (hsz : 0 < size)
    (ao bo : Option Addr) (n m c : Nat) (olds news : List Value) (hs : a.eval s = .slice ao n n) (hx : a.eval x = .slice bo m c) (ho : Reads w size ao n olds) (hr : Reads w size bo m news) (h1 : ∀ u ∈ news, u.oneCell' = true)
    (h63 : n + m ≤ maxLen) (hbytes : (n + m) * bytes ≤ 140737488355328)
    (h : ∀ ao' cap' w', n + m ≤ cap' → cap' ≤ 9223372036854775807 → Reads w' size ao' (n + m) (olds ++ news) → Ext w w' → (∀ ad, ao' = some ad → ao = some ad ∨ w.heap.size ≤ ad.block) → wpList P ops Q rest (a.put o.dst (.slice ao' (n + m) cap')) w') :
    wpList P ops Q (o :: rest) a w := by
  refine wpList_plain hgd fun K hK' => ?_
  obtain ⟨ao', cap', w', hrun, k1, k2, k3, k4, k5⟩ := run_append_full (P := P) w t o.type e i z size bytes ht hi hz hsize hby hzs hsz ao bo n m c olds news ho hr h1 h63 hbytes
  unfold Oper.wp
  simp [execOp, hop, resolve, invoke, builtin, hs, hx, hrun, Result.andThen]
  exact hK' _ _ (h _ _ _ k1 k2 k3 k4 k5)

end Go.Proofs.YtkjcbfaimonaoaaDoor
