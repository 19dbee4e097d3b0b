/- append to a slice that has no room left. No program is named here. Lists of Naturals: slices that the call itself made, each element canonical; append with what it says of where the answer lies. No program is named here. divide. natural: Add, Sub, Mul, DivMod, Gcd, Cmp, Of. Pieces that many walks share. natural: Gcd. base.Mod. -/
import Derived.Test.YtbplkienkhinmaaGreatDoorMem
import Derived.Deep.RegionLaw
import Derived.Test.YtbplkienkhinmaaGreatDoorMinus
import Derived.Test.YtbplkienkhinmaaGreatDoorNum
import Derived.Deep.DeepCutAuto
import Derived.Deep.RegionHeld3
import Derived.Deep.LoopGhost
set_option linter.unusedVariables false
set_option linter.unusedSimpArgs false
set_option maxRecDepth 100000
namespace Go.Proofs.YtbplkienkhinmaaGreatDoor
open Go.RowKit Num

section
variable {P : Program} (w : World)

theorem run_append_zero (t ty e : TypeId) (i : TypeInfo) (ht : P.underlying t = some (.slice e)) (hi : P.info? e = some i) (ao bo : Option Addr) (n cap c : Nat) (hn : n ≤ cap) :
    (Builtin.append_ #[t, t] ty #[.slice ao n cap, .slice bo 0 c]).run P w = .ok (.slice ao n cap) w := by
  have hf : ∀ a : Addr, (Builtin.firstCells i.size 0 (.slice (some a) 0 c)).run P w = .ok #[] w := fun a => run_firstCells_some (P := P) w i.size 0 a 0 c [] (by simp) (by simp)
  have hf0 : (Builtin.firstCells i.size 0 (.slice none 0 c)).run P w = .ok #[] w := by simp [Builtin.firstCells]
  cases ao <;> cases bo <;> simp [Builtin.append_, run_underlying ht, sizeOf, typeInfo, hi, Builtin.lenOf, hf, hf0, hn, storeCells]

/-- The slice is full: what comes back reads as both, and only new memory has been made. -/
theorem run_append_full (t ty e : TypeId) (i : TypeInfo) (z : Value) (size bytes : Nat) (ht : P.underlying t = some (.slice e)) (hi : P.info? e = some i) (hz : i.zero = some z)
    (hsize : i.size = size) (hby : i.bytes = bytes) (hzs : z.cells.size = size) (hsz : 0 < size)
    (ao bo : Option Addr) (n m c : Nat) (olds news : List Value) (ho : Reads w size ao n olds) (hr : Reads w size bo m news) (h1 : ∀ u ∈ news, u.oneCell' = true)
    (h63 : n + m ≤ maxLen) (hbytes : (n + m) * bytes ≤ 140737488355328) :
    ∃ ao' cap' w', (Builtin.append_ #[t, t] ty #[.slice ao n n, .slice bo m c]).run P w = .ok (.slice ao' (n + m) cap') w' ∧ n + m ≤ cap' ∧ cap' ≤ 9223372036854775807 ∧ Reads w' size ao' (n + m) (olds ++ news) ∧ Ext w w' ∧ (∀ ad, ao' = some ad → ao = some ad ∨ w.heap.size ≤ ad.block) := by
  rcases Nat.eq_zero_or_pos m with hm | hm
  · subst hm
    have : news = [] := List.eq_nil_of_length_eq_zero (by simpa using hr.1)
    subst this
    exact ⟨ao, n, w, run_append_zero w t ty e i ht hi ao bo n n c (Nat.le_refl _), by omega, by unfold maxLen at h63; omega, by simpa using ho, Below.refl _ _, fun ad h => .inl h⟩
  · obtain ⟨ad, rfl, _, hc⟩ := hr.2 hm
    have key : ∃ v' w', (Builtin.append_ #[t, t] ty #[.slice ao n n, .slice (some ad) m c]).run P w = .ok v' w' ∧ w'.ownsRow w.heap.size e size v' (n + m) (olds ++ news) ∧ w.grownBy w' none := by
      rcases Nat.eq_zero_or_pos n with hn | hn
      · subst hn
        have : olds = [] := List.eq_nil_of_length_eq_zero (by simpa using ho.1)
        subst this
        cases ao with
        | none =>
          obtain ⟨v', w', h2, h3, h4, _⟩ := run_append_own (P := P) w w.heap.size t ty e i z size bytes ht hi hz hsize hby hzs hsz (.slice none 0 0) 0 [] (World.ownsRow_nil w _ e size) ad m c news hr.1 hc h1 h63 hbytes (Nat.le_refl _)
          exact ⟨v', w', h2, h3, h4⟩
        | some b => exact run_append_arg_grows (P := P) w t ty e i z size bytes ht hi hz hsize hby hzs hsz b 0 0 [] (by simp) (by simp) ad m c news hr.1 hc (by omega) h63 hbytes
      · obtain ⟨b, rfl, _, hb⟩ := ho.2 hn
        exact run_append_arg_grows (P := P) w t ty e i z size bytes ht hi hz hsize hby hzs hsz b n n olds ho.1 hb ad m c news hr.1 hc (by omega) h63 hbytes
    obtain ⟨v', w', h2, h3, h4⟩ := key
    obtain ⟨g, cap', rfl, hbg, _⟩ := h3.form (by omega)
    have hcc : n + m ≤ cap' ∧ cap' ≤ 9223372036854775807 := by
      rcases h3.2 with ⟨h, _⟩ | ⟨g', cap2, cur, h, _, _, h5, h6, _, _⟩
      · cases h
      · injection h with _ _ h
        subst h
        exact ⟨h5, h6⟩
    exact ⟨_, cap', w', h2, hcc.1, hcc.2, Reads.of_own h3, (Below.refl _ _).grown h4 (Nat.le_refl _) (by simp), fun ad h => .inr (by injection h with h; subst h; exact hbg)⟩
end

/-- At a step of a region that draws its order, and in a list of operations. -/
theorem step_append_full {P : Program} (w : World) {ops : Array Oper} {o : Oper} {a : Act} {K : Act → World → Prop} {Q : Exit → Act → World → Prop} {E : Prop} (hgd : o.guard = none) (s x : Operand) (t : TypeId)
    (hop : o.op = .call { callee := .builtin .append, args := #[s, x], argTypes := #[t, t] })
    (e : TypeId) (i : TypeInfo) (z : Value) (size bytes : Nat) (ht : P.underlying t = some (.slice e)) (hi : P.info? e = some i) (hz : i.zero = some z)
    (hsize : i.size = size) (hby : i.bytes = bytes) (hzs : z.cells.size = size) (hsz : 0 < size)
    (ao bo : Option Addr) (n m c : Nat) (olds news : List Value) (hs : a.eval s = .slice ao n n) (hx : a.eval x = .slice bo m c) (ho : Reads w size ao n olds) (hr : Reads w size bo m news) (h1 : ∀ u ∈ news, u.oneCell' = true)
    (h63 : n + m ≤ maxLen) (hbytes : (n + m) * bytes ≤ 140737488355328)
    (h : ∀ ao' cap' w', n + m ≤ cap' → cap' ≤ 9223372036854775807 → Reads w' size ao' (n + m) (olds ++ news) → Ext w w' → (∀ ad, ao' = some ad → ao = some ad ∨ w.heap.size ≤ ad.block) → K (a.put o.dst (.slice ao' (n + m) cap')) w') :
    if Region.wanted o (yielded ops a.tmps) = true then Oper.wp P o a w K Q else E := by
  have hw : Region.wanted o (yielded ops a.tmps) = true := by simp [Region.wanted, hgd]
  rw [if_pos hw]
  obtain ⟨ao', cap', w', hrun, k1, k2, k3, k4, k5⟩ := run_append_full (P := P) w t o.type e i z size bytes ht hi hz hsize hby hzs hsz ao bo n m c olds news ho hr h1 h63 hbytes
  unfold Oper.wp
  simp [execOp, hop, resolve, invoke, builtin, hs, hx, hrun, Result.andThen]
  exact h _ _ _ k1 k2 k3 k4 k5

theorem wpList_append_full {P : Program} (w : World) {ops : Array Oper} {rest : List Oper} {o : Oper} {a : Act} {Q : Exit → Act → World → Prop} (hgd : o.guard = none) (s x : Operand) (t : TypeId)
    (hop : o.op = .call { callee := .builtin .append, args := #[s, x], argTypes := #[t, t] })
    (e : TypeId) (i : TypeInfo) (z : Value) (size bytes : Nat) (ht : P.underlying t = some (.slice e)) (hi : P.info? e = some i) (hz : i.zero = some z)
    (hsize : i.size = size) (hby : i.bytes = bytes) (hzs : z.cells.size = size) (hsz : 0 < size)
    (ao bo : Option Addr) (n m c : Nat) (olds news : List Value) (hs : a.eval s = .slice ao n n) (hx : a.eval x = .slice bo m c) (ho : Reads w size ao n olds) (hr : Reads w size bo m news) (h1 : ∀ u ∈ news, u.oneCell' = true)
    (h63 : n + m ≤ maxLen) (hbytes : (n + m) * bytes ≤ 140737488355328)
    (h : ∀ ao' cap' w', n + m ≤ cap' → cap' ≤ 9223372036854775807 → Reads w' size ao' (n + m) (olds ++ news) → Ext w w' → (∀ ad, ao' = some ad → ao = some ad ∨ w.heap.size ≤ ad.block) → wpList P ops Q rest (a.put o.dst (.slice ao' (n + m) cap')) w') :
    wpList P ops Q (o :: rest) a w := by
  refine wpList_plain hgd fun K hK' => ?_
  obtain ⟨ao', cap', w', hrun, k1, k2, k3, k4, k5⟩ := run_append_full (P := P) w t o.type e i z size bytes ht hi hz hsize hby hzs hsz ao bo n m c olds news ho hr h1 h63 hbytes
  unfold Oper.wp
  simp [execOp, hop, resolve, invoke, builtin, hs, hx, hrun, Result.andThen]
  exact hK' _ _ (h _ _ _ k1 k2 k3 k4 k5)

end Go.Proofs.YtbplkienkhinmaaGreatDoor
namespace Go.Proofs.YtbplkienkhinmaaGreatDoor
open Go.RowKit Num

section
variable {w : World} {base e size : Nat} {v : Value} {n : Nat} {xs : List Value}
theorem ownsRow_base {b b' : Nat} {e : TypeId} (h : w.ownsRow b e size v n xs) (hb : b' ≤ b) : w.ownsRow b' e size v n xs := by
  refine ⟨h.1, ?_⟩
  rcases h.2 with hn | ⟨g, cap, cur, h1, h2, h3⟩
  · exact .inl hn
  · exact .inr ⟨g, cap, cur, h1, Nat.le_trans hb h2, h3⟩
end

section
variable {P : Program} (w : World)
/-- append to a row of the call's own: as the kit's law has it, and besides: the answer lies in the same block or in new memory. -/
theorem run_append_mine (base : Nat) (t ty e : TypeId) (i : TypeInfo) (z : Value) (size bytes : Nat) (ht : P.underlying t = some (.slice e)) (hi : P.info? e = some i) (hz : i.zero = some z)
    (hsize : i.size = size) (hby : i.bytes = bytes) (hzs : z.cells.size = size) (hsz : 0 < size)
    (v : Value) (n : Nat) (xs : List Value) (hown : w.ownsRow base e size v n xs)
    (a : Addr) (m c : Nat) (news : List Value) (hl : news.length = m * size) (hnews : ∀ j u, news[j]? = some u → w.cell? (a.add j) = some u) (h1 : ∀ u ∈ news, u.oneCell' = true)
    (h63 : n + m ≤ maxLen) (hbytes : (n + m) * bytes ≤ 140737488355328) (hbase : base ≤ w.heap.size) :
    ∃ v' w', (Builtin.append_ #[t, t] ty #[v, .slice (some a) m c]).run P w = .ok v' w' ∧ w'.ownsRow base e size v' (n + m) (xs ++ news) ∧ w.grownBy w' v.ownBlock ∧ (v'.ownBlock = v.ownBlock ∨ New w.heap.size v') := by
  rcases hown.2 with ⟨rfl, rfl⟩ | ⟨g, cap, cur, rfl, hbg, hg, hnc, hcm, hcs, htake⟩
  · have hx : xs = [] := List.eq_nil_of_length_eq_zero (by simpa using hown.1)
    subst hx
    obtain ⟨v', w', h2, h3, h4, h5⟩ := run_append_own (P := P) w w.heap.size t ty e i z size bytes ht hi hz hsize hby hzs hsz (.slice none 0 0) 0 [] (World.ownsRow_nil w _ e size) a m c news hl hnews h1 h63 hbytes (Nat.le_refl _)
    exact ⟨v', w', h2, ownsRow_base h3 hbase, h4, .inr fun b hb => (h3.lt b hb).1⟩
  · by_cases hroom : n + m ≤ cap
    · subst hsize
      subst hby
      have hfit : n * i.size + news.length ≤ cur.size := by rw [hl, hcs, ← Nat.add_mul]; exact Nat.mul_le_mul_right _ hroom
      have hlen : (xs ++ news).length = (n + m) * i.size := by rw [List.length_append, hown.1, hl, Nat.add_mul]
      have hr := run_append_room (P := P) w t ty e i ht hi g n cap cur hg a m c news hl hnews h1 hroom hfit
      refine ⟨_, _, hr, ⟨hlen, .inr ⟨g, cap, _, rfl, hbg, setRow_heap w g cur _ e _ hg, hroom, hcm, ?_, ?_⟩⟩, ⟨rfl, rfl, rfl, by simp, fun k _ hk => setRow_other w g k _ (fun e => hk (by simp [Value.ownBlock, e]))⟩, .inl rfl⟩
      · simp only [List.size_toArray, List.length_append, List.length_take, List.length_drop, Array.length_toList]
        omega
      · rw [htake, ← hlen]
        exact List.take_left
    · have holds : ∀ j u, xs[j]? = some u → w.cell? ((⟨g, 0, none⟩ : Addr).add j) = some u := hown.cells (g := g) rfl
      obtain ⟨v', w', h2, h3, h4⟩ := run_append_arg_grows (P := P) w t ty e i z size bytes ht hi hz hsize hby hzs hsz ⟨g, 0, none⟩ n cap xs hown.1 holds a m c news hl hnews (by omega) h63 hbytes
      exact ⟨v', w', h2, ownsRow_base h3 hbase, ⟨h4.os, h4.tape, h4.output, h4.size, fun k hk _ => h4.block k hk (by simp)⟩, .inr fun b hb => (h3.lt b hb).1⟩
end

theorem wpList_append_mine {P : Program} (w : World) {ops : Array Oper} {rest : List Oper} {o : Oper} {a : Act} {Q : Exit → Act → World → Prop} (hgd : o.guard = none) (s x : Operand) (t : TypeId)
    (hop : o.op = .call { callee := .builtin .append, args := #[s, x], argTypes := #[t, t] })
    (base : Nat) (e : TypeId) (i : TypeInfo) (z : Value) (size bytes : Nat) (ht : P.underlying t = some (.slice e)) (hi : P.info? e = some i) (hz : i.zero = some z)
    (hsize : i.size = size) (hby : i.bytes = bytes) (hzs : z.cells.size = size) (hsz : 0 < size)
    (v : Value) (n : Nat) (xs : List Value) (hs : a.eval s = v) (hown : w.ownsRow base e size v n xs)
    (ad : Addr) (m c : Nat) (news : List Value) (hx : a.eval x = .slice (some ad) m c) (hl : news.length = m * size) (hnews : ∀ j u, news[j]? = some u → w.cell? (ad.add j) = some u) (h1 : ∀ u ∈ news, u.oneCell' = true)
    (h63 : n + m ≤ maxLen) (hbytes : (n + m) * bytes ≤ 140737488355328) (hbase : base ≤ w.heap.size)
    (h : ∀ v' w', w'.ownsRow base e size v' (n + m) (xs ++ news) → w.grownBy w' v.ownBlock → (v'.ownBlock = v.ownBlock ∨ New w.heap.size v') → wpList P ops Q rest (a.put o.dst v') w') : wpList P ops Q (o :: rest) a w := by
  refine wpList_plain hgd fun K hK' => ?_
  obtain ⟨v', w', hrun, k1, k2, k3⟩ := run_append_mine (P := P) w base t o.type e i z size bytes ht hi hz hsize hby hzs hsz v n xs hown ad m c news hl hnews h1 h63 hbytes hbase
  unfold Oper.wp
  simp [execOp, hop, resolve, invoke, builtin, hs, hx, hrun, Result.andThen]
  exact hK' _ _ (h _ _ k1 k2 k3)

theorem step_append_mine {P : Program} (w : World) {ops : Array Oper} {o : Oper} {a : Act} {K : Act → World → Prop} {Q : Exit → Act → World → Prop} {E : Prop} (hgd : o.guard = none) (s x : Operand) (t : TypeId)
    (hop : o.op = .call { callee := .builtin .append, args := #[s, x], argTypes := #[t, t] })
    (base : Nat) (e : TypeId) (i : TypeInfo) (z : Value) (size bytes : Nat) (ht : P.underlying t = some (.slice e)) (hi : P.info? e = some i) (hz : i.zero = some z)
    (hsize : i.size = size) (hby : i.bytes = bytes) (hzs : z.cells.size = size) (hsz : 0 < size)
    (v : Value) (n : Nat) (xs : List Value) (hs : a.eval s = v) (hown : w.ownsRow base e size v n xs)
    (ad : Addr) (m c : Nat) (news : List Value) (hx : a.eval x = .slice (some ad) m c) (hl : news.length = m * size) (hnews : ∀ j u, news[j]? = some u → w.cell? (ad.add j) = some u) (h1 : ∀ u ∈ news, u.oneCell' = true)
    (h63 : n + m ≤ maxLen) (hbytes : (n + m) * bytes ≤ 140737488355328) (hbase : base ≤ w.heap.size)
    (h : ∀ v' w', w'.ownsRow base e size v' (n + m) (xs ++ news) → w.grownBy w' v.ownBlock → (v'.ownBlock = v.ownBlock ∨ New w.heap.size v') → K (a.put o.dst v') w') :
    if Region.wanted o (yielded ops a.tmps) = true then Oper.wp P o a w K Q else E := by
  have hw : Region.wanted o (yielded ops a.tmps) = true := by simp [Region.wanted, hgd]
  rw [if_pos hw]
  obtain ⟨v', w', hrun, k1, k2, k3⟩ := run_append_mine (P := P) w base t o.type e i z size bytes ht hi hz hsize hby hzs hsz v n xs hown ad m c news hl hnews h1 h63 hbytes hbase
  unfold Oper.wp
  simp [execOp, hop, resolve, invoke, builtin, hs, hx, hrun, Result.andThen]
  exact h _ _ k1 k2 k3

/-- The slice u, where it has elements, does not lie in the block of v. -/
def Far (u v : Value) : Prop := ∀ A n c g, u = .slice (some A) (n + 1) c → v.ownBlock = some g → A.block ≠ g

section
variable {w w' : World} {u v v' : Value} {n : Nat} {xs : List Nat}
theorem Far.nil_ (u : Value) : Far u (.slice none 0 0) := fun _ _ _ _ _ h => by cases h
theorem U32s.lt {A : Addr} {k c : Nat} (h : U32s w (.slice (some A) (k + 1) c) xs) : A.block < w.heap.size := by
  obtain ⟨A', c', e, _, _, h4⟩ := h
  injection e with e1 e2 e3
  obtain ⟨ad, e4, hlt, _⟩ := h4.2 (by omega)
  rw [e4] at e1
  injection e1 with e1
  subst e1
  exact hlt
theorem Far.new (hu : U32s w u xs) (hv : New w.heap.size v) : Far u v := by
  intro A n c g e hg
  subst e
  have h1 := hu.lt
  have h2 := hv g hg
  omega
theorem Far.same (h : Far u v) (e : v'.ownBlock = v.ownBlock) : Far u v' := fun A n c g e1 h1 => h A n c g e1 (by rw [← e]; exact h1)
theorem Far.of_new {B : Nat} (hu : New B u) (hv : ∀ g, v.ownBlock = some g → g < B) : Far u v := by
  intro A n c g e hg
  subst e
  have h1 := hu A.block rfl
  have h2 := hv g hg
  omega
theorem U32s.kept (h : U32s w u xs) (hg : w.grownBy w' v.ownBlock) (hf : Far u v) : U32s w' u xs := by
  obtain ⟨A, c, rfl, h2, h3, h4⟩ := h
  refine ⟨A, c, rfl, h2, h3, h4.1, fun hn => ?_⟩
  obtain ⟨ad, rfl, hlt, hc⟩ := h4.2 hn
  obtain ⟨k, hk⟩ : ∃ k, xs.length = k + 1 := ⟨xs.length - 1, by omega⟩
  refine ⟨ad, rfl, Nat.lt_of_lt_of_le hlt hg.size, fun j x hx => hg.cell (hc j x hx) ?_⟩
  rw [block_of_add]
  intro e
  exact hf ad k c ad.block (by rw [hk]) e.symm rfl
theorem CanV.kept {m : Nat} (h : CanV w u m) (hg : w.grownBy w' v.ownBlock) (hf : Far u v) : CanV w' u m := U32s.kept h hg hf
theorem U32s.setFar (h : U32s w u xs) {p : Addr} (hf : ∀ A n c, u = .slice (some A) (n + 1) c → A.block ≠ p.block) (x : Value) : U32s (w.setCell p x) u xs := by
  obtain ⟨A, c, rfl, h2, h3, h4⟩ := h
  refine ⟨A, c, rfl, h2, h3, h4.1, fun hn => ?_⟩
  obtain ⟨ad, rfl, hlt, hc⟩ := h4.2 hn
  obtain ⟨k, hk⟩ : ∃ k, xs.length = k + 1 := ⟨xs.length - 1, by omega⟩
  refine ⟨ad, rfl, by simpa using hlt, fun j y hy => ?_⟩
  rw [World.cell?_setCell_other _ _ _ _ ?_]
  · exact hc j y hy
  · intro e
    have := hf ad k c (by rw [hk])
    rw [e, block_of_add] at this
    exact this rfl
end

/-- A list of Naturals in a row of the call's own. -/
def OwnN (e : TypeId) (base B : Nat) (w : World) (v : Value) (us : List Value) (ns : List Nat) : Prop :=
  w.ownsRow base e 1 v ns.length us ∧ ∀ (k : Nat) (u : Value) (m : Nat), us[k]? = some u → ns[k]? = some m → CanV w u m ∧ Far u v ∧ New B u

/-- A list of Naturals, to be read. -/
def NatsV (B : Nat) (w : World) (v : Value) (ns : List Nat) : Prop :=
  ∃ A cap us, v = .slice A ns.length cap ∧ ns.length ≤ cap ∧ cap ≤ 9223372036854775807 ∧ Reads w 1 A ns.length us ∧ ∀ (k : Nat) (u : Value) (m : Nat), us[k]? = some u → ns[k]? = some m → CanV w u m ∧ New B u

section
variable {e : TypeId} {base B : Nat} {w w' w1 : World} {v v' u : Value} {us : List Value} {ns : List Nat}
theorem OwnN.nil_ (e : TypeId) (base B : Nat) (w : World) : OwnN e base B w (.slice none 0 0) [] [] := ⟨World.ownsRow_nil _ _ _ _, by simp⟩
theorem OwnN.ext (h : OwnN e base B w v us ns) (hE : Ext w w') : OwnN e base B w' v us ns := by
  refine ⟨h.1.kept (Ext.grown hE) (by cases v.ownBlock <;> simp), fun k u m hu hm => ?_⟩
  obtain ⟨h1, h2, h3⟩ := h.2 k u m hu hm
  exact ⟨h1.below hE, h2, h3⟩
theorem OwnN.push {m : Nat} (h : OwnN e base B w v us ns) (hu : CanV w u m) (hf : Far u v) (hB : New B u) (hown : w'.ownsRow base e 1 v' (ns.length + 1) (us ++ [u])) (hg : w.grownBy w' v.ownBlock) (hw : v'.ownBlock = v.ownBlock ∨ New w.heap.size v') :
    OwnN e base B w' v' (us ++ [u]) (ns ++ [m]) := by
  have far : ∀ {x k}, CanV w x k → Far x v → Far x v' := fun hx hf => by
    rcases hw with hw | hw
    · exact hf.same hw
    · exact Far.new hx hw
  have hl : us.length = ns.length := by have := h.1.1; omega
  refine ⟨by simpa using hown, fun k x y hx hy => ?_⟩
  rcases Nat.lt_or_ge k ns.length with hk | hk
  · rw [List.getElem?_append_left (by omega)] at hx hy
    obtain ⟨h1, h2, h3⟩ := h.2 k x y hx hy
    exact ⟨h1.kept hg h2, far h1 h2, h3⟩
  · rw [List.getElem?_append_right (by omega)] at hx hy
    rw [hl] at hx
    have hk0 : k - ns.length = 0 := by
      rcases Nat.eq_zero_or_pos (k - ns.length) with h | h
      · exact h
      · rw [List.getElem?_eq_none (by simp; omega)] at hy; cases hy
    rw [hk0] at hx hy
    simp at hx hy
    subst hx hy
    exact ⟨hu.kept hg hf, far hu hf, hB⟩
theorem OwnN.nats (h : OwnN e base B w v us ns) : NatsV B w v ns := by
  rcases h.1.2 with ⟨rfl, h0⟩ | ⟨g, cap, cur, rfl, _, _, hc, hm, _, _⟩
  · have : ns = [] := List.eq_nil_of_length_eq_zero h0
    subst this
    exact ⟨none, 0, [], rfl, Nat.le_refl _, by omega, Reads.nil_, by simp⟩
  · exact ⟨_, cap, us, rfl, hc, hm, Reads.of_own h.1, fun k u m hu hm => ⟨(h.2 k u m hu hm).1, (h.2 k u m hu hm).2.2⟩⟩
theorem NatsV.ext (h : NatsV B w v ns) (hE : Ext w w') : NatsV B w' v ns := by
  obtain ⟨A, cap, us, h1, h2, h3, h4, h5⟩ := h
  exact ⟨A, cap, us, h1, h2, h3, h4.below hE, fun k u m hu hm => ⟨(h5 k u m hu hm).1.below hE, (h5 k u m hu hm).2⟩⟩
theorem NatsV.at_ {A : Option Addr} {n c k m : Nat} (h : NatsV B w (.slice A n c) ns) (hk : ns[k]? = some m) :
    ∃ ad A' k' c', A = some ad ∧ ad.block < w.heap.size ∧ w.cell? (ad.add k) = some (.slice A' k' c') ∧ CanV w (.slice A' k' c') m ∧ New B (.slice A' k' c') := by
  obtain ⟨A0, cap, us, e, h2, h3, h4, h5⟩ := h
  injection e with e1 e2 e3
  subst e1
  have hlt : k < ns.length := (List.getElem?_eq_some_iff.1 hk).1
  obtain ⟨ad, u, rfl, hb, hu, hc⟩ := h4.at_ (k := k) hlt
  obtain ⟨hcan, hnew⟩ := h5 k u m hu hk
  obtain ⟨A', k', c', rfl⟩ := hcan.form
  exact ⟨ad, A', k', c', rfl, hb, hc, hcan, hnew⟩
theorem NatsV.form (h : NatsV B w v ns) : ∃ A c, v = .slice A ns.length c ∧ ns.length ≤ c ∧ c ≤ 9223372036854775807 := by
  obtain ⟨A, cap, us, h1, h2, h3, _⟩ := h
  exact ⟨A, cap, h1, h2, h3⟩
theorem NatsV.set {p : Addr} (h : NatsV B w v ns) (hn : New B v) (hp : p.block < B) (x : Value) : NatsV B (w.setCell p x) v ns := by
  obtain ⟨A, cap, us, rfl, h2, h3, h4, h5⟩ := h
  refine ⟨A, cap, us, rfl, h2, h3, ⟨h4.1, fun hk => ?_⟩, fun k u m hu hm => ⟨U32s.setFar (h5 k u m hu hm).1 (fun A' n c e => ?_) x, (h5 k u m hu hm).2⟩⟩
  · obtain ⟨ad, rfl, hlt, hc⟩ := h4.2 hk
    refine ⟨ad, rfl, by simpa using hlt, fun j y hy => ?_⟩
    rw [World.cell?_setCell_other _ _ _ _ ?_]
    · exact hc j y hy
    · intro e
      have h6 := hn ad.block rfl
      have h7 := congrArg Addr.block e
      rw [block_of_add] at h7
      omega
  · subst e
    have := (h5 k _ m hu hm).2 A'.block rfl
    omega
end

end Go.Proofs.YtbplkienkhinmaaGreatDoor
namespace Go.Proofs.YtbplkienkhinmaaGreatDoor
open Go.RowKit Num

theorem add_nought (a : Addr) : a.add 0 = a := by simp [Addr.add]

theorem U32s.cell {w : World} {A : Option Addr} {n cap : Nat} {xs : List Nat} (h : U32s w (.slice A n cap) xs) {k : Nat} (hk : k < xs.length) :
    ∃ ad, A = some ad ∧ ad.block < w.heap.size ∧ w.cell? (ad.add k) = some (.int .u32 (xs.getD k 0 : Nat)) := by
  obtain ⟨A', cap', e, h2, h3, h4⟩ := h
  injection e with e1 e2 e3
  subst e1
  obtain ⟨ad, u, rfl, hb, hu, hc⟩ := h4.at_ (k := k) hk
  rw [u32s_get _ _ hk] at hu
  cases hu
  exact ⟨ad, rfl, hb, hc⟩

theorem cmpN_neg {a b : Nat} : cmpN a b < 0 ↔ a < b := by unfold cmpN; split <;> (try split) <;> omega
theorem cmpN_pos {a b : Nat} : 0 < cmpN a b ↔ b < a := by unfold cmpN; split <;> (try split) <;> omega

/-- What 'divide' answers. -/
def DivR (w : World) (B a b : Nat) (e : Ending) (w' : World) : Prop := ∃ q r, e = .returned (.tuple #[q, r]) ∧ CanV w' q (a / b) ∧ CanV w' r (a % b) ∧ Ext w w' ∧ New B q ∧ New B r

set_option maxHeartbeats 400000 in
theorem divide_small {u v : Value} {a b : Nat} {w : World} {B : Nat} (hn : New B u) (hu : CanV w u a) (hv : CanV w v b) (hlt : a < b) :
    Calls Tryz.prog 64 #[u, v] w (DivR w B a b) := by
  have hc : cmpN a b < 0 := cmpN_neg.2 hlt
  go_enter Tryz.func64, Tryz.ntmps64
  go_wp2_with fail
  refine (compare_any hu hv).mono ?_
  rintro e w' ⟨rfl, hx⟩
  go_wp2
  go_ret2
  refine ⟨_, _, rfl, ?_, ?_, hx, New.nil_ _, hn⟩
  · rw [Nat.div_eq_of_lt hlt]; exact CanV.nil_ _
  · rw [Nat.mod_eq_of_lt hlt]; exact hu.below hx

theorem limbsOf_one {d : Nat} (h0 : 0 < d) (h1 : d < 1000000000) : limbsOf d = [d] := by
  rw [limbsOf_pos (by omega), Nat.mod_eq_of_lt h1, Nat.div_eq_of_lt h1, limbsOf_zero]

theorem U32s.lit (w : World) (x : Nat) : U32s (w.alloc (.cells #[.int .u32 (x : Int)] 91)) (.slice (some ⟨w.heap.size, 0, none⟩) 1 1) [x] :=
  U32s.of_own (World.ownsRow_lit (base := w.heap.size) (size := 1) w #[.int .u32 (x : Int)] 1 (Nat.le_refl _) (by unfold maxLen; omega) rfl) (Nat.le_refl _) (by omega)

set_option maxHeartbeats 1000000 in
theorem divide_one {u v : Value} {a b : Nat} {w : World} {B0 : Nat} (hB0 : B0 ≤ w.heap.size) (hu : CanV w u a) (hv : CanV w v b) (hge : b ≤ a) (hb0 : 0 < b) (hb1 : b < 1000000000) (hl : (limbsOf a).length ≤ 8796093022208) :
    Calls Tryz.prog 64 #[u, v] w (DivR w B0 a b) := by
  have hc : 0 ≤ cmpN a b := by have := @cmpN_neg a b; omega
  have hv0 := hv
  unfold CanV at hv0
  rw [limbsOf_one hb0 hb1] at hv0
  obtain ⟨B, cap, rfl, h2, h3, h4⟩ := id hv0
  obtain ⟨ad, rfl, hb, hcell⟩ := hv0.cell (k := 0) (by simp)
  simp only [List.getD_cons_zero, add_nought] at hcell
  simp only [List.length_cons, List.length_nil, Nat.zero_add] at hu hv h2 ⊢
  go_enter Tryz.func64, Tryz.ntmps64
  go_wp2_with fail
  refine (compare_any hu hv).mono ?_
  rintro e w1 ⟨rfl, hx⟩
  have hcell1 : w1.cell? ad = some (.int .u32 (b : Int)) := by rw [hx.cell hb]; exact hcell
  generalize cmpN a b = c at *
  go_wp2_with fail
  refine (short_any (hu.below hx) hb0 hb1 hl).mono ?_
  rintro e w2 ⟨q, rfl, hq, hx2, hnq⟩
  go_wp2_with fail
  refine (trim_u (U32s.lit w2 (a % b)) (Below.refl _ _) (by intro x hx; simp at hx; have := Nat.mod_lt a hb0; omega)).mono ?_
  rintro e w' ⟨r, rfl, hr, rfl, hor⟩
  go_wp2
  go_ret2
  simp only [val, Nat.mul_zero, Nat.add_zero] at hr
  exact ⟨_, _, rfl, hq.alloc _, hr, (hx.trans (Ext.trans hx2 ((Below.refl _ _).alloc (Nat.le_refl _) _))), hnq.mono (by have := hx.size; omega), (New.at_ (by have := hx.size; have := hx2.size; omega)).same hor⟩


theorem U32s.setCell {w : World} {A : Option Addr} {n c : Nat} {xs : List Nat} (h : U32s w (.slice A n c) xs) {p : Addr} (hne : ∀ ad, A = some ad → ad.block ≠ p.block) (u : Value) : U32s (w.setCell p u) (.slice A n c) xs := by
  obtain ⟨A', cap', e, h2, h3, h4⟩ := h
  injection e with e1 e2 e3
  subst e1
  refine ⟨A, cap', by rw [e2, e3], h2, h3, h4.1, fun hn => ?_⟩
  obtain ⟨ad, rfl, hb, hc⟩ := h4.2 hn
  exact ⟨ad, rfl, by simpa using hb, fun j v hv => (World.cell?_setCell_other w p _ u (fun e => hne ad rfl (by rw [e, block_of_add]))).trans (hc j v hv)⟩

theorem U32s.setNew {w : World} {v : Value} {xs : List Nat} (h : U32s w v xs) {B : Nat} (hn : New B v) {p : Addr} (hp : p.block < B) (u : Value) : U32s (w.setCell p u) v xs := by
  obtain ⟨A, cap, rfl, h2, h3, h4⟩ := id h
  exact h.setCell (fun ad e => by subst e; have := hn ad.block rfl; omega) u

theorem U32s.from_ {w : World} {A : Option Addr} {n c k : Nat} {xs : List Nat} (h : U32s w (.slice A n c) xs) (hk : k ≤ n) :
    U32s w (.slice (if c = k then A else A.map (·.add k)) (n - k) (c - k)) (xs.drop k) := by
  obtain ⟨A', cap', e, h2, h3, h4⟩ := h
  injection e with e1 e2 e3
  subst e1
  subst e2
  subst e3
  refine ⟨_, c - k, by rw [List.length_drop], by rw [List.length_drop]; omega, by omega, ?_⟩
  refine ⟨by simp [u32s], fun hn => ?_⟩
  rw [List.length_drop] at hn
  obtain ⟨ad, rfl, hb, hc⟩ := h4.2 (by omega)
  rw [if_neg (by omega)]
  refine ⟨ad.add k, rfl, by rw [block_of_add]; exact hb, fun j u hu => ?_⟩
  rw [add_of_add]
  exact hc _ u (by rw [← hu, ← u32s_drop, List.getElem?_drop])

theorem U32s.upto {w : World} {A : Option Addr} {n c k : Nat} {xs : List Nat} (h : U32s w (.slice A n c) xs) (hk : k ≤ n) : Reads w 1 A k (u32s (xs.take k)) := by
  obtain ⟨A', cap', e, h2, h3, h4⟩ := h
  injection e with e1 e2 e3
  subst e1
  rw [← u32s_take]
  exact h4.take_ (by omega)

set_option maxHeartbeats 4000000 in
theorem divide_many {u v : Value} {a b : Nat} {w : World} {B0 : Nat} (hB0 : B0 ≤ w.heap.size) (hu : CanV w u a) (hv : CanV w v b) (hge : b ≤ a) (hb2 : 2 ≤ (limbsOf b).length) (hl : (limbsOf a).length ≤ 2199023255552) :
    Calls Tryz.prog 64 #[u, v] w (DivR w B0 a b) := by
  obtain ⟨i0, hi, hz0, hz1, hz2⟩ := info_parts info_u32
  have hb0 : b ≠ 0 := by rintro rfl; rw [limbsOf_zero] at hb2; simp at hb2
  have hc : 0 ≤ cmpN a b := by have := @cmpN_neg a b; omega
  obtain ⟨lb, t, elb, ht0, ht1, hbt1, hbt2⟩ := top_bounds hb0
  have hlb := limbsOf_length_mono hge
  have hv0 := hv
  unfold CanV at hv0
  rw [elb] at hv0 hb2 hlb
  simp only [List.length_append, List.length_cons, List.length_nil, Nat.zero_add] at hb2 hlb
  obtain ⟨B, cap, hvv, h2, h3, h4⟩ := id hv0
  simp only [List.length_append, List.length_cons, List.length_nil, Nat.zero_add] at hvv h2
  subst hvv
  obtain ⟨ad, rfl, hb, hcell⟩ := hv0.cell (k := lb.length) (by simp)
  rw [show (lb ++ [t]).getD lb.length 0 = t from by simp [List.getD]] at hcell
  have hs0 : 0 < 1000000000 / (t + 1) := Nat.div_pos (by omega) (by omega)
  have hs1 : 1000000000 / (t + 1) < 1000000000 := Nat.div_lt_self (by omega) (by omega)
  go_enter Tryz.func64, Tryz.ntmps64
  go_wp2_with fail
  refine (compare_any hu hv).mono ?_
  rintro e w1 ⟨rfl, hx1⟩
  have hcell1 : w1.cell? (ad.add lb.length) = some (.int .u32 (t : Int)) := by rw [hx1.cell (by rw [block_of_add]; exact hb)]; exact hcell
  generalize cmpN a b = c at *
  go_wp2_with fail
  have es : (1000000000 / ((t : Int) + 1)) = ((1000000000 / (t + 1) : Nat) : Int) := by simp
  rw [es]
  clear es
  have hst : b * (1000000000 / (t + 1)) < 1000000000 ^ (lb.length + 1) := by
    have e1 : b * (1000000000 / (t + 1)) < 1000000000 ^ lb.length * (t + 1) * (1000000000 / (t + 1)) := Nat.mul_lt_mul_of_pos_right hbt2 hs0
    have e2 : (t + 1) * (1000000000 / (t + 1)) ≤ 1000000000 := Nat.mul_div_le _ _
    have e3 := Nat.mul_le_mul_left (1000000000 ^ lb.length) e2
    rw [Nat.mul_assoc] at e1
    rw [Nat.pow_succ]
    omega
  have hcs : CanV (w1.alloc (.cells #[.int .u32 ((1000000000 / (t + 1) : Nat) : Int)] 91)) (.slice (some ⟨w1.heap.size, 0, none⟩) 1 1) (1000000000 / (t + 1)) := by
    unfold CanV
    rw [limbsOf_one hs0 hs1]
    exact U32s.lit w1 _
  have hxs : Ext w1 (w1.alloc (.cells #[.int .u32 ((1000000000 / (t + 1) : Nat) : Int)] 91)) := (Below.refl _ _).alloc (Nat.le_refl _) _
  generalize 1000000000 / (t + 1) = s at *
  generalize hW1 : w1.alloc (.cells #[.int .u32 (s : Int)] 91) = W1 at *
  have hszW : W1.heap.size = w1.heap.size + 1 := by rw [← hW1]; simp
  have hcsc : W1.cell? ⟨w1.heap.size, 0, none⟩ = some (.int .u32 (s : Int)) := by rw [← hW1]; simp
  have HZ := Lib.hid hszW
  clear hW1 hszW
  have hxW : Ext w W1 := hx1.trans hxs
  refine (times_any (hu.below hxW) hcs (by rw [limbsOf_one hs0 hs1]; simp; omega)).mono ?_
  rintro e w2 ⟨pu, rfl, hpu, hx2, hnu⟩
  go_wp2_with fail
  refine (times_any (hv.below (hxW.trans hx2)) (hcs.below hx2) (by rw [limbsOf_one hs0 hs1, elb]; simp; omega)).mono ?_
  rintro e w3 ⟨pv, rfl, hpv, hx3, hnv⟩
  have hpu3 := hpu.below hx3
  have hcs3 := hcs.below (hx2.trans hx3)
  have hcsc3 : w3.cell? ⟨w1.heap.size, 0, none⟩ = some (.int .u32 (s : Int)) := by rw [(hx2.trans hx3).cell (by have := HZ.out; show w1.heap.size < _; omega)]; exact hcsc
  have hx03 : Ext w w3 := hxW.trans (hx2.trans hx3)
  have hw13 : w1.heap.size < w3.heap.size := by have := HZ.out; have := (hx2.trans hx3).size; omega
  have hVU : b * s ≤ a * s := Nat.mul_le_mul_right _ hge
  have hV0 : b * s ≠ 0 := Nat.mul_ne_zero hb0 (by omega)
  have hdm : a * s / (b * s) = a / b ∧ a * s % (b * s) = a % b * s := ⟨Nat.mul_div_mul_right _ _ hs0, Nat.mul_mod_mul_right _ _ _⟩
  have HDM := Lib.hid hdm
  have hUl : (limbsOf (a * s)).length ≤ 2199023255553 := by
    have := limbsOf_length_mul a s
    rw [limbsOf_one hs0 hs1] at this
    simp only [List.length_cons, List.length_nil, Nat.zero_add] at this
    omega
  have hrl0 : (limbsOf (a % b * s)).length ≤ 2199023255553 := by
    have e1 := limbsOf_length_mul (a % b) s
    have e2 := limbsOf_length_mono (Nat.mod_le a b)
    rw [limbsOf_one hs0 hs1] at e1
    simp only [List.length_cons, List.length_nil, Nat.zero_add] at e1
    omega
  have HRL := Lib.hid hrl0
  clear hrl0
  have hVUl := limbsOf_length_mono hVU
  obtain ⟨lv, tv, elv, htv0, htv1, hbv1, hbv2⟩ := top_bounds hV0
  have hpv0 := hpv
  unfold CanV at hpv0 hpu3
  rw [elv] at hpv0 hVUl
  simp only [List.length_append, List.length_cons, List.length_nil, Nat.zero_add] at hVUl
  have hdU := limbsOf_digs (a * s)
  have hvU := val_limbsOf (a * s)
  generalize limbsOf (a * s) = us0 at *
  generalize a * s = U at *
  have hVpos : 0 < b * s := by omega
  clear hdm hst hVU hV0 hlb
  generalize b * s = V at *
  obtain ⟨Au, cu, rfl, ku2, ku3, ku4⟩ := id hpu3
  obtain ⟨Av, cv, hpvv, kv2, kv3, kv4⟩ := id hpv0
  simp only [List.length_append, List.length_cons, List.length_nil, Nat.zero_add] at hpvv kv2
  subst hpvv
  have hAu : ∀ ad, Au = some ad → 0 < us0.length → ad.block < w3.heap.size := by
    intro ad h h0
    obtain ⟨ad', e, hb, _⟩ := ku4.2 h0
    rw [h] at e
    injection e with e
    subst e
    exact hb
  have hAu' : ∀ ad, Au = some ad → ad.block ≠ w3.heap.size := fun ad h => by have := hAu ad h (by omega); omega
  go_wp2_with (first | (at_make; refine wpList_make_full _ rfl _ _ 23 rfl w3.heap.size 91 i0 (.int .u32 0) 1 Tryz.underlying23 hi hz0 hz1 _ _ _ _ (us0.length - lv.length) rfl rfl (by omega) (by omega) ?b1 ?b2 ?b3 ?_) | fail)
  case b1 => rw [hz2]; omega
  case b2 => unfold maxLen; omega
  case b3 => exact Nat.le_refl _
  intro w4 hown hgrow
  rw [u32s_replicate] at hown
  have hb4 : Ext w3 w4 := (Below.refl _ _).grown hgrow (Nat.le_refl _) (by simp)
  clear hgrow
  obtain ⟨M, hM⟩ : ∃ M, M = us0.length - lv.length := ⟨_, rfl⟩
  rw [← hM] at hown ⊢
  have hMp : 0 < M := by omega
  have hMl : M + lv.length = us0.length := by omega
  have hDs : DivAt U V M M us0 (List.replicate M 0) := by
    refine DivAt.start hdU hvU (by omega) ?_
    have e1 := val_lt (hdU.drop M)
    rw [List.length_drop, show us0.length - M = lv.length from by omega] at e1
    have e2 : 1000000000 ^ lv.length ≤ 1000000000 ^ lv.length * tv := Nat.le_mul_of_pos_right _ (by omega)
    omega
  have HM := Lib.hid hMl
  clear hMl hM
  go_wp2
  go_loopw [9, 12] (fun uv jv wr => ∃ (k : Nat) (us qs : List Nat) (A : Option Addr) (c : Nat), k ≤ M ∧ jv = .int .i64 ((k : Int) - 1) ∧ uv = .slice A us.length c ∧ U32s wr (.slice A us.length c) us ∧ (∀ ad, A = some ad → ad.block ≠ w3.heap.size) ∧
      wr.ownsRow w3.heap.size 91 1 (.slice (some ⟨w3.heap.size, 0, none⟩) M M) M (u32s qs) ∧ Ext w3 wr ∧ DivAt U V M k us qs ∧ us.length ≤ us0.length)
    (fun _ jv _ => (intOf jv + 1).toNat)
  case atStart => exact ⟨M, us0, _, Au, cu, Nat.le_refl _, by have := HM.out; go_num, rfl, U32s.below hpu3 hb4, hAu', hown, hb4, hDs, Nat.le_refl _⟩
  case round =>
    obtain ⟨k, us, qs, A, c', hk, rfl, rfl, hus, hAq, hown1, hbr, hat, hul⟩ := hrel
    obtain ⟨wo, hwo⟩ : ∃ wo : World, wo = wr := ⟨_, rfl⟩
    subst hwo
    have hcc : us.length ≤ c' ∧ c' ≤ 9223372036854775807 := by
      obtain ⟨_, _, e, e2, e3, _⟩ := id hus
      injection e with _ _ e
      subst e
      exact ⟨e2, e3⟩
    cases k with
    | zero =>
      have hdn := Lib.hid hat.done
      have hus' := hus
      have hcscr : wo.cell? ⟨w1.heap.size, 0, none⟩ = some (.int .u32 (s : Int)) := by rw [hbr.cell (show w1.heap.size < w3.heap.size from hw13)]; exact hcsc3
      go_wp2_with fail
      go_region_law (first
        | (go_simp
           go_at_call 62
           refine (trim_u hus.drew (Below.refl _ _) hat.digs).mono ?_
           rintro e w5 ⟨pt, rfl, hpt, rfl, hobt⟩
           rw [hdn.out.2, HDM.out.2] at hpt)
        | (go_simp
           go_at_call 76
           refine (short_any hpt hs0 (by omega) (by have := HRL.out; omega)).mono ?_
           rintro e w6 ⟨pr, rfl, hpr, hx6, hnr⟩))
      all_goals
        go_wp2_with fail
        refine (trim_u (U32s.below (U32s.of_own hown1 (Nat.le_refl _) (by have := HM.out; omega)) (Ext.trans (Below.refl _ _).drew hx6)) (Below.refl _ _) hat.qdigs).mono ?_
        rintro e w7 ⟨pq, rfl, hpq, rfl, hoq⟩
        rw [hdn.out.1, HDM.out.1] at hpq
        go_wp2
        go_ret2
        refine ⟨_, _, rfl, hpq, ?_, hx03.trans (hbr.trans (Ext.trans (Below.refl _ _).drew hx6)), (New.at_ (by have := hx03.size; omega)).same hoq, hnr.mono (by have := hx03.size; have := hbr.size; show B0 ≤ wo.heap.size; omega)⟩
        rw [Nat.mul_div_cancel _ hs0] at hpr
        exact hpr
    | succ k =>
      have hkl := hat.len
      have hPl := hat.part_lt
      have hfr := hus.from_ (k := k) (by omega)
      rw [if_neg (by omega)] at hfr
      have hdp := hat.digs.drop k
      go_wp2_with fail
      refine (clone_any hfr (by rw [List.length_drop]; omega)).mono ?_
      rintro e w5 ⟨pc, rfl, hpc, hx5, hnc⟩
      go_wp2_with fail
      refine (trim_u hpc (Below.refl _ _) hdp).mono ?_
      rintro e w5' ⟨pp, rfl, hpp, rfl, hobp⟩
      have hnp := hnc.same hobp
      clear hnc hobp
      have hpv5 := CanV.below hpv (hbr.trans hx5)
      go_wp2_with fail
      refine (compare_any hpp hpv5).mono ?_
      rintro e w6 ⟨rfl, hx6⟩
      have hb36 := hbr.trans (Ext.trans hx5 hx6)
      have hus6 := hus.below (Ext.trans hx5 hx6)
      have hown6 := hown1.kept (Ext.grown (Ext.trans hx5 hx6)) (.inr (by simp [Value.ownBlock]))
      by_cases hPV : val (us.drop k) < V
      · have hcm : cmpN (val (us.drop k)) V < 0 := cmpN_neg.2 hPV
        have hskip := Lib.hid (hat.skip hPV)
        generalize cmpN (val (us.drop k)) V = cm at *
        go_wp2
        go_roundw
        case rel => exact ⟨k, us, qs, A, c', by omega, by go_num, rfl, hus6, hAq, hown6, hb36, hskip.out, hul⟩
        case measure => simp [intOf]; try omega
      · have hcm : 0 ≤ cmpN (val (us.drop k)) V := by have := @cmpN_neg (val (us.drop k)) V; omega
        have htake := Lib.hid (fun q => hat.take (q := q) (by omega))
        have hP0 : val (us.drop k) ≠ 0 := by omega
        have hVP : V ≤ val (us.drop k) := by omega
        have hpp0 := hpp
        unfold CanV at hpp0
        obtain ⟨lp, p1, elp, hp0, hp1, hbp1, hbp2⟩ := top_bounds hP0
        have hll := limbsOf_length_mono hVP
        have hlu : (limbsOf (val (us.drop k))).length ≤ lv.length + 2 := by
          refine limbsOf_length_le ?_
          have e1 : 1000000000 * V < 1000000000 * (1000000000 ^ lv.length * (tv + 1)) := Nat.mul_lt_mul_of_pos_left hbv2 (by omega)
          have e2 : 1000000000 ^ lv.length * (tv + 1) ≤ 1000000000 ^ lv.length * 1000000000 := Nat.mul_le_mul_left _ (by omega)
          rw [Nat.pow_succ, Nat.pow_succ]
          omega
        rw [elp] at hpp0 hlu hll
        rw [elv] at hll
        simp only [List.length_append, List.length_cons, List.length_nil, Nat.zero_add] at hll hlu
        obtain ⟨Ap, cp, hppv, kp2, kp3, kp4⟩ := id hpp0
        simp only [List.length_append, List.length_cons, List.length_nil, Nat.zero_add] at hppv kp2
        subst hppv
        have hpp6 := hpp0.below hx6
        have hpv6 := hpv5.below hx6
        unfold CanV at hpv6
        rw [elv] at hpv6
        obtain ⟨ap, rfl, _, hcp1⟩ := hpp6.cell (k := lp.length) (by simp)
        rw [show (lp ++ [p1]).getD lp.length 0 = p1 from by simp [List.getD]] at hcp1
        have hpv6' : U32s w6 (.slice Av (lv.length + 1) cv) (lv ++ [tv]) := hpv6
        obtain ⟨av, hav, _, hcv1⟩ := hpv6'.cell (k := lv.length) (by simp)
        rw [show (lv ++ [tv]).getD lv.length 0 = tv from by simp [List.getD]] at hcv1
        subst hav
        have hp2 : 0 < lp.length → ∃ p0 : Nat, p0 < 1000000000 ∧ w6.cell? (ap.add (lp.length - 1)) = some (.int .u32 (p0 : Int)) ∧ val (us.drop k) < 1000000000 ^ (lp.length - 1) * (p1 * 1000000000 + p0 + 1) := by
          intro h
          obtain ⟨p0, e1, e2, e3⟩ := top2_bounds elp h
          obtain ⟨ap', e4, _, e5⟩ := hpp6.cell (k := lp.length - 1) (by simp; omega)
          injection e4 with e4
          subst e4
          have e6 : (lp ++ [p1]).getD (lp.length - 1) 0 = p0 := by rw [← e1]; simp [List.getD, List.getElem?_append, show lp.length - 1 < lp.length by omega]
          exact ⟨p0, e2, by rw [e5, e6], e3⟩
        have HP := Lib.hid hp2
        clear hp2
        generalize cmpN (val (us.drop k)) V = cm at *
        generalize hPe : val (us.drop k) = P at *
        clear hPe
        go_upto_if 93 with (fail)
        go_cut [14] (fun tp wx => w6 = wx ∧ ∃ p : Nat, tp = .int .u64 p ∧ p < 1000000000000000000 ∧ P < 1000000000 ^ lv.length * (p + 1))
        case first =>
          by_cases hlen : lp.length = lv.length
          · go_wp2_with fail
            go_meet
            case rel => exact ⟨rfl, p1, rfl, by omega, by rw [← hlen]; exact hbp2⟩
          · obtain ⟨p0, hp01, hcp0, hbp0⟩ := HP.out (by omega)
            rw [show lp.length - 1 = lv.length from by omega] at hbp0
            go_wp2_with fail
            go_meet
            case rel => exact ⟨rfl, p1 * 1000000000 + p0, by go_num, by omega, hbp0⟩
        case rest =>
          obtain ⟨rfl, p, rfl, hpb, hpl⟩ := hcut
          have hq1 := guess_ge htv0 hbv1 hpl
          have hg0 : 0 ≤ (p : Int) / tv := Int.ediv_nonneg (by omega) (by omega)
          have hg1 : (p : Int) / tv < 1000000000000000000 := Int.lt_of_le_of_lt (Int.ediv_le_self _ (by omega)) (by omega)
          have HQ := Lib.hid hq1
          have HPL := Lib.hid hpl
          clear hq1 hpl hpb
          go_upto_region 17 with (fail)
          go_cut [15] (fun gv wx => w6 = wx ∧ ∃ g : Nat, gv = .int .u64 g ∧ P / V ≤ g ∧ g ≤ 999999999)
          case first =>
            have hPV9 : P / V ≤ 999999999 := by
              have := (Nat.div_lt_iff_lt_mul hVpos).2 hPl
              omega
            have HP9 := Lib.hid hPV9
            clear hPV9
            by_cases hbig : (999999999 : Int) < (p : Int) / tv
            · go_wp2_with fail
              go_meet
              case rel => exact ⟨rfl, 999999999, rfl, HP9.out, by omega⟩
            · go_wp2_with fail
              go_meet
              case rel => exact ⟨rfl, p / tv, by simp, HQ.out, by rw [← Int.ofNat_le]; simp; omega⟩
          case rest =>
            obtain ⟨rfl, g, rfl, hgQ, hg9⟩ := hcut
            clear hg0 hg1
            have hQ1 : 1 ≤ P / V := (Nat.le_div_iff_mul_le hVpos).2 (by omega)
            have hcg : CanV (w6.alloc (.cells #[.int .u32 (g : Int)] 91)) (.slice (some ⟨w6.heap.size, 0, none⟩) 1 1) g := by
              unfold CanV
              rw [limbsOf_one (by omega) (by omega)]
              exact U32s.lit w6 _
            have hpV6 := CanV.below hpv5 hx6
            have hVlen : (limbsOf V).length = lv.length + 1 := by rw [elv]; simp
            have hPlen : (limbsOf P).length = lp.length + 1 := by rw [elp]; simp
            have hgl : (limbsOf g).length = 1 := by rw [limbsOf_one (by omega) (by omega)]; rfl
            have HGQ := Lib.hid hgQ
            clear hgQ hQ1
            have HL1 := Lib.hid hVlen
            have HL2 := Lib.hid hPlen
            have HL3 := Lib.hid hgl
            clear hVlen hPlen hgl
            go_wp2_with fail
            refine (times_any (hpV6.alloc _) hcg (by rw [HL1.out, HL3.out]; omega)).mono ?_
            rintro e w7 ⟨pd, rfl, hpd, hx7, hnd⟩
            have hx67 : Ext w6 w7 := Ext.trans ((Below.refl _ _).alloc (Nat.le_refl _) _) hx7
            have hb37 := hb36.trans hx67
            have hnd0 : New (w3.heap.size + 1) pd := hnd.mono (by have := hb36.size; simp; omega)
            clear hnd
            clear hcg hx7
            go_wp2
            go_loopw [15, 16] (fun gv dv wr => ∃ (g : Nat) (pd : Value), P / V ≤ g ∧ g ≤ 999999999 ∧ gv = .int .u64 g ∧ dv = pd ∧ CanV wr pd (V * g) ∧ Ext w6 wr ∧ New (w3.heap.size + 1) pd)
              (fun gv _ _ => (intOf gv).toNat)
            case atStart => exact ⟨g, pd, HGQ.out, hg9, rfl, rfl, hpd, hx67, hnd0⟩
            case round =>
              obtain ⟨g, pd, hgQ, hg9, rfl, rfl, hpd, hx6r, hnd⟩ := hrel
              have hpVr := hpV6.below hx6r
              have hppr := hpp.below (hx6.trans hx6r)
              have hgv : V * g ≤ 999999999 * V := by rw [Nat.mul_comm]; exact Nat.mul_le_mul_right _ hg9
              have hgl : (limbsOf (V * g)).length ≤ lv.length + 2 := by
                have e1 := limbsOf_length_mono hgv
                have e2 := limbsOf_length_mul 999999999 V
                rw [HL1.out, limbsOf_one (d := 999999999) (by omega) (by omega)] at e2
                simp only [List.length_cons, List.length_nil, Nat.zero_add] at e2
                omega
              have HG := Lib.hid hgl
              clear hgl hgv
              have hdm : P / V * V ≤ P := Nat.div_mul_le_self _ _
              by_cases hgt : P < V * g
              · have hgQ1 : P / V < g := by
                  refine Nat.lt_of_mul_lt_mul_left (a := V) ?_
                  rw [Nat.mul_comm V (P / V)]
                  exact Nat.lt_of_le_of_lt hdm hgt
                have hg1 : V * g - V = V * (g - 1) := by rw [Nat.mul_sub, Nat.mul_one]
                have HG1 := Lib.hid hg1
                have hgp : 0 < g := Nat.zero_lt_of_lt hgQ1
                have hVg : V ≤ V * g := Nat.le_mul_of_pos_right _ hgp
                have HVg := Lib.hid hVg
                have hcm2 : 0 < cmpN (V * g) P := cmpN_pos.2 hgt
                have HgQ1 := Lib.hid hgQ1
                clear hg1 hVg hgt hdm hgQ hgQ1
                go_wp2_with fail
                refine (compare_any hpd hppr).mono ?_
                rintro e w8 ⟨rfl, hx8⟩
                generalize cmpN (V * g) P = cm2 at *
                go_wp2_with fail
                refine (minus_any (hpd.below hx8) (hpVr.below hx8) (by have := HG.out; omega) HVg.out).mono ?_
                rintro e w9 ⟨pd2, rfl, hpd2, hx9, hnd2⟩
                rw [HG1.out] at hpd2
                go_wp2
                go_roundw
                case rel => exact ⟨g - 1, pd2, Nat.le_sub_one_of_lt HgQ1.out, by omega, by go_num, rfl, hpd2, (hx6r.trans hx8).trans hx9, hnd2.mono (by have := hb36.size; have := hx6r.size; have := hx8.size; have := (hown1.lt _ rfl); have := hx5.size; have := hx6.size; omega)⟩
                case measure => simp [intOf]; try omega
              · have hcm2 : cmpN (V * g) P ≤ 0 := by have := @cmpN_pos (V * g) P; omega
                have hgE : g = P / V := by
                  refine Nat.le_antisymm ?_ hgQ
                  rw [Nat.le_div_iff_mul_le hVpos, Nat.mul_comm]
                  exact Nat.le_of_not_lt hgt
                have HGE := Lib.hid hgE
                clear hgE hdm hgQ hgt
                go_wp2_with fail
                refine (compare_any hpd hppr).mono ?_
                rintro e w8 ⟨rfl, hx8⟩
                have hx68 := hx6r.trans hx8
                have hown8 := hown6.kept (Ext.grown hx68) (.inr (by simp [Value.ownBlock]))
                have hql : k < M := hk
                have hcq : w8.cell? ⟨w3.heap.size, k, none⟩ = some (.int .u32 (qs.getD k 0 : Nat)) := by rw [hown8.cellAt k (by omega), u32s_get qs _ (by rw [hat.qlen]; omega)]
                have hfq : w8.frozen? ⟨w3.heap.size, k, none⟩ = false := hown8.frozenAt _
                generalize qs.getD k 0 = q0 at *
                generalize cmpN (V * g) P = cm2 at *
                go_wp2_with fail
                have hs9 := (hown8.stored k (.int .u32 (g : Int))).1
                rw [u32s_set] at hs9
                have hus9 := (hus6.below hx68).setCell (p := ⟨w3.heap.size, k, none⟩) hAq (.int .u32 (g : Int))
                have hwo3 : w3.heap.size < wo.heap.size := (hown1.lt _ rfl).2
                have hpp9 := (CanV.below hpp (hx6.trans hx68)).setNew (p := ⟨w3.heap.size, k, none⟩) hnp hwo3 (.int .u32 (g : Int))
                have hpd9 := (CanV.below hpd hx8).setNew (p := ⟨w3.heap.size, k, none⟩) hnd (Nat.lt_succ_self _) (.int .u32 (g : Int))
                have hb39 : Ext w3 (w8.setCell ⟨w3.heap.size, k, none⟩ (.int .u32 (g : Int))) := (hb36.trans hx68).setCell (Nat.le_refl _) _
                clear hcq hfq hown8
                generalize hW9 : w8.setCell ⟨w3.heap.size, k, none⟩ (.int .u32 (g : Int)) = W9 at *
                clear hW9
                have hkc : (k : Int) ≤ (c' : Int) := by omega
                have hk0 : (0 : Int) ≤ (k : Int) := by omega
                have HLE : Hid (V * g ≤ P) := Lib.hid (by rw [HGE.out, Nat.mul_comm]; exact Nat.div_mul_le_self _ _)
                go_region_law (first
                  | (refine step_append_full _ (by rfl) (.tmp 136) (.tmp 139) 23 (by rfl) 91 i0 (.int .u32 0) 1 4 Tryz.underlying23 hi hz0 hz1 hz2 rfl (by omega) A bo k (limbsOf (P - V * g)).length cb (u32s (us.take k)) (u32s (limbsOf (P - V * g))) (by rfl) (by rfl) ((hus9.drew.below hx10).upto (by omega)) hro (u32s_oneCell _) (by unfold maxLen; omega) (by omega) ?_
                     intro ao' cap' w11 k1 k2 k3 k4 k5)
                  | (go_simp
                     go_at_call 78
                     refine (minus_any (a := P) (b := V * g) hpp9.drew hpd9.drew (by rw [HL2.out]; omega) HLE.out).mono ?_
                     rintro e w10 ⟨pr, rfl, hpr, hx10, hn10⟩
                     obtain ⟨bo, cb, rfl, hr2, hr3, hro⟩ := id hpr
                     have hrl : (limbsOf (P - V * g)).length ≤ lp.length + 1 := by have := limbsOf_length_mono (Nat.sub_le P (V * g)); rw [HL2.out] at this; exact this))
                have hPg : P - V * g < V := by
                  have e1 := Nat.div_add_mod P V
                  have e2 := Nat.mod_lt P hVpos
                  rw [← HGE.out] at e1
                  omega
                have hnew := htake.out g (by omega) HLE.out hPg
                have hrl2 : (limbsOf (P - V * g)).length ≤ lv.length + 1 := by have := limbsOf_length_mono (Nat.le_of_lt hPg); rw [HL1.out] at this; exact this
                have hull : us.length ≤ us0.length := hul
                have hkM : k + 1 ≤ M := hk
                have hHM := HM.out
                have hlen' : (us.take k ++ limbsOf (P - V * g)).length = k + (limbsOf (P - V * g)).length := by rw [List.length_append, List.length_take, Nat.min_eq_left (by omega)]
                have hus11 : U32s w11 (.slice ao' (us.take k ++ limbsOf (P - V * g)).length cap') (us.take k ++ limbsOf (P - V * g)) :=
                  ⟨ao', cap', rfl, by rw [hlen']; exact k1, k2, by rw [hlen', ← u32s_append]; exact k3⟩
                have hx911 : Ext W9 w11 := Ext.trans ((Below.refl _ _).drew) (Ext.trans hx10 k4)
                have hown11 := hs9.kept (Ext.grown hx911) (.inr (by simp [Value.ownBlock]))
                have HN := Lib.hid hnew
                have HLN := Lib.hid hlen'
                clear hnew hlen' k3 k1 hPg hHM hrl2
                go_wp2
                go_roundw
                case rel =>
                  refine ⟨k, us.take k ++ limbsOf (P - V * g), qs.set k g, ao', cap', by omega, by go_num, by rw [HLN.out], hus11, ?_, hown11, hb39.trans hx911, HN.out, ?_⟩
                  · intro ad h
                    rcases k5 ad h with e | e
                    · exact hAq ad e
                    · have e1 := hb39.size
                      have e2 := hx10.size
                      have e3 : w3.heap.size < W9.heap.size := (hs9.lt _ rfl).2
                      have e4 : W9.drew.heap.size = W9.heap.size := rfl
                      omega
                  · rw [HLN.out]
                    have e1 : (limbsOf (P - V * g)).length ≤ lv.length + 1 := by
                      have e2 : P - V * g < V := HN.out.small |> fun h => by
                        rw [List.drop_left' (by simp; omega), val_limbsOf] at h; exact h
                      have := limbsOf_length_mono (Nat.le_of_lt e2); rw [HL1.out] at this; exact this
                    have := HM.out
                    omega
                case measure => simp [intOf]; try omega

theorem divide_any {u v : Value} {a b : Nat} {w : World} {B0 : Nat} (hn : New B0 u) (hB0 : B0 ≤ w.heap.size) (hu : CanV w u a) (hv : CanV w v b) (hb0 : 0 < b) (hl : (limbsOf a).length ≤ 2199023255552) :
    Calls Tryz.prog 64 #[u, v] w (DivR w B0 a b) := by
  by_cases hlt : a < b
  · exact divide_small hn hu hv hlt
  · by_cases h1 : (limbsOf b).length = 1
    · refine divide_one hB0 hu hv (by omega) hb0 ?_ (by omega)
      have := limbsOf_lt b
      rw [h1] at this
      simpa using this
    · have h0 : (limbsOf b).length ≠ 0 := fun e => by have := (limbsOf_nil_iff b).1 (List.eq_nil_of_length_eq_zero e); omega
      exact divide_many hB0 hu hv (by omega) (by omega) hl

end Go.Proofs.YtbplkienkhinmaaGreatDoor
namespace Go.Proofs.YtbplkienkhinmaaGreatDoor
open Go.RowKit Num

theorem made_c {v : Value} {n : Nat} {w : World} {B : Nat} (hv : CanV w v n) (hn : New B v) :
    Calls Tryz.prog 43 #[v] w (fun e w' => ∃ A k c, e = .returned (.agg #[.slice A k c]) ∧ CanV w' (.slice A k c) n ∧ Ext w w' ∧ New B (.slice A k c)) := by
  have := made_any hv (limbsOf_digs n) hn
  rwa [val_limbsOf] at this

/-- Two boxes of one cell each and a box for the answer. -/
structure Box3 (w W0 : World) (x y : Value) : Prop where
  ext : Ext w W0
  size : W0.heap.size = w.heap.size + 1 + 1 + 1
  rd : ∀ w', Below (w.heap.size + 1 + 1) W0 w' → w'.cell? ⟨w.heap.size, 0, none⟩ = some x ∧ w'.cell? ⟨w.heap.size + 1, 0, none⟩ = some y
  zc : ∀ w', Ext W0 w' → w'.cell? ⟨w.heap.size + 1 + 1, 0, none⟩ = some (.slice none 0 0) ∧ w'.frozen? ⟨w.heap.size + 1 + 1, 0, none⟩ = false

theorem box3 (w : World) (x y : Value) (t : TypeId) : Box3 w (((w.alloc (.cells #[x] t)).alloc (.cells #[y] t)).alloc (.cells #[.slice none 0 0] t)) x y := by
  refine ⟨(((Below.refl _ _).alloc (Nat.le_refl _) _).alloc (by simp) _).alloc (by simp; omega) _, by simp, ?_, ?_⟩ <;> intro w' h <;> constructor
  · rw [h.cell (by simp; omega)]; simp [go_sem, World.cell?_alloc_old]
  · rw [h.cell (by simp)]; simp [go_sem, World.cell?_alloc_old]
  · rw [h.cell (by simp)]; simp [go_sem]
  · rw [h.frozen (by simp)]; simp [go_sem]

theorem Box3.low {w W0 W1 w' : World} {x y : Value} (h : Box3 w W0 x y) (hE : Below (w.heap.size + 1 + 1) W0 W1) (hx : Ext W1 w') : Below (w.heap.size + 1 + 1) W0 w' :=
  hE.trans (hx.mono (by have := h.size; have := hE.size; omega))
theorem Box3.fin {w W0 w' : World} {x y : Value} (h : Box3 w W0 x y) (hE : Ext W0 w') (u : Value) : Ext w (w'.setCell ⟨w.heap.size + 1 + 1, 0, none⟩ u) :=
  (h.ext.trans hE).setCell (by show w.heap.size ≤ w.heap.size + 1 + 1; omega) u
theorem Box3.res {w W0 W w' : World} {x y : Value} (h : Box3 w W0 x y) (hE : Ext W0 W) {v : Value} {n : Nat} (hv : CanV w' v n) (hn : New W.heap.size v) (u : Value) : CanV (w'.setCell ⟨w.heap.size + 1 + 1, 0, none⟩ u) v n :=
  U32s.setNew hv hn (by have := h.size; have := hE.size; show w.heap.size + 1 + 1 < _; omega) u
theorem Box3.new {w W0 W : World} {x y : Value} (h : Box3 w W0 x y) (hE : Ext W0 W) {v : Value} (hn : New W.heap.size v) : New w.heap.size v :=
  hn.mono (by have := h.size; have := hE.size; omega)

set_option maxHeartbeats 1000000 in
theorem add_n {x y : Value} {a b : Nat} {w : World} (hx : NatV w x a) (hy : NatV w y b) (ha : (limbsOf a).length ≤ 2199023255552) (hb : (limbsOf b).length ≤ 2199023255552) :
    Calls Tryz.prog 74 #[.agg #[x], .agg #[y]] w (GivesN w (a + b)) := by
  go_enter Tryz.func74, Tryz.ntmps74
  go_wp2
  have hB := box3 w x y 25
  generalize ((w.alloc (.cells #[x] 25)).alloc (.cells #[y] 25)).alloc (.cells #[.slice none 0 0] 25) = W0 at *
  have hE0 : Ext W0 W0.drew := (Below.refl _ _).drew
  have hL0 : Below (w.heap.size + 1 + 1) W0 W0.drew := (Below.refl _ _).drew
  have hA0 : NatV W0.drew x a := (hx.below hB.ext).drew
  have hB0 : NatV W0.drew y b := (hy.below hB.ext).drew
  have HB := Lib.hid hB
  clear hB
  go_region_held3 (fun w' => w'.cell? ⟨w.heap.size, 0, none⟩ = some x ∧ w'.cell? ⟨w.heap.size + 1, 0, none⟩ = some y)
    (first | exact HB.out.rd _ (hL4.setCell (Nat.le_refl _) _) | exact HB.out.rd _ hL4 | exact HB.out.rd _ hL3 | exact HB.out.rd _ hL2 | exact HB.out.rd _ hL1 | exact HB.out.rd _ hL0)
    (first
      | (go_at_call 42; (with_reducible refine (limbs_n hA0).mono ?_); rintro e w1 ⟨v1, rfl, h1, x1, n1⟩; have hL1 := HB.out.low hL0 x1)
      | (go_at_call 42; (with_reducible refine (limbs_n (hB0.below x1)).mono ?_); rintro e w2 ⟨v2, rfl, h2, x2, n2⟩; have hL2 := HB.out.low hL1 x2)
      | (go_at_call 99; (with_reducible refine (plus_any (h1.below x2) h2 ha hb).mono ?_); rintro e w3 ⟨v3, rfl, h3, x3, n3⟩; have hL3 := HB.out.low hL2 x3)
      | (go_at_call 43; (with_reducible refine (made_c h3 n3).mono ?_); rintro e w4 ⟨A4, k4, c4, rfl, h4, x4, n4⟩; have hL4 := HB.out.low hL3 x4; obtain ⟨z4, zf4⟩ := HB.out.zc _ ((((hE0.trans x1).trans x2).trans x3).trans x4)))
  have hE2 := (hE0.trans x1).trans x2
  go_wp2
  refine bodyPost_ret (v := .agg #[.slice A4 k4 c4]) (by simp [results, Tryz.results74, go_sem, World.cell?_setCell_same _ _ _ z4]) rfl ?_
  exact ⟨_, _, _, rfl, HB.out.res hE2 h4 n4 _, HB.out.fin ((hE2.trans x3).trans x4) _, HB.out.new hE2 n4⟩

set_option maxHeartbeats 1000000 in
theorem mul_n {x y : Value} {a b : Nat} {w : World} (hx : NatV w x a) (hy : NatV w y b) (hl : (limbsOf a).length + (limbsOf b).length ≤ 8796093022208) :
    Calls Tryz.prog 24 #[.agg #[x], .agg #[y]] w (GivesN w (a * b)) := by
  go_enter Tryz.func24, Tryz.ntmps24
  go_wp2
  have hB := box3 w x y 25
  generalize ((w.alloc (.cells #[x] 25)).alloc (.cells #[y] 25)).alloc (.cells #[.slice none 0 0] 25) = W0 at *
  have hE0 : Ext W0 W0.drew := (Below.refl _ _).drew
  have hL0 : Below (w.heap.size + 1 + 1) W0 W0.drew := (Below.refl _ _).drew
  have hA0 : NatV W0.drew x a := (hx.below hB.ext).drew
  have hB0 : NatV W0.drew y b := (hy.below hB.ext).drew
  have HB := Lib.hid hB
  clear hB
  go_region_held3 (fun w' => w'.cell? ⟨w.heap.size, 0, none⟩ = some x ∧ w'.cell? ⟨w.heap.size + 1, 0, none⟩ = some y)
    (first | exact HB.out.rd _ (hL4.setCell (Nat.le_refl _) _) | exact HB.out.rd _ hL4 | exact HB.out.rd _ hL3 | exact HB.out.rd _ hL2 | exact HB.out.rd _ hL1 | exact HB.out.rd _ hL0)
    (first
      | (go_at_call 42; (with_reducible refine (limbs_n hA0).mono ?_); rintro e w1 ⟨v1, rfl, h1, x1, n1⟩; have hL1 := HB.out.low hL0 x1)
      | (go_at_call 42; (with_reducible refine (limbs_n (hB0.below x1)).mono ?_); rintro e w2 ⟨v2, rfl, h2, x2, n2⟩; have hL2 := HB.out.low hL1 x2)
      | (go_at_call 44; (with_reducible refine (times_any (h1.below x2) h2 hl).mono ?_); rintro e w3 ⟨v3, rfl, h3, x3, n3⟩; have hL3 := HB.out.low hL2 x3)
      | (go_at_call 43; (with_reducible refine (made_c h3 n3).mono ?_); rintro e w4 ⟨A4, k4, c4, rfl, h4, x4, n4⟩; have hL4 := HB.out.low hL3 x4; obtain ⟨z4, zf4⟩ := HB.out.zc _ ((((hE0.trans x1).trans x2).trans x3).trans x4)))
  have hE2 := (hE0.trans x1).trans x2
  go_wp2
  refine bodyPost_ret (v := .agg #[.slice A4 k4 c4]) (by simp [results, Tryz.results24, go_sem, World.cell?_setCell_same _ _ _ z4]) rfl ?_
  exact ⟨_, _, _, rfl, HB.out.res hE2 h4 n4 _, HB.out.fin ((hE2.trans x3).trans x4) _, HB.out.new hE2 n4⟩

/-- Two boxes of one cell each. -/
structure Box2 (w W0 : World) (x y : Value) : Prop where
  ext : Ext w W0
  size : W0.heap.size = w.heap.size + 1 + 1
  rd : ∀ w', Ext W0 w' → w'.cell? ⟨w.heap.size, 0, none⟩ = some x ∧ w'.cell? ⟨w.heap.size + 1, 0, none⟩ = some y

theorem box2 (w : World) (x y : Value) (t : TypeId) : Box2 w ((w.alloc (.cells #[x] t)).alloc (.cells #[y] t)) x y := by
  refine ⟨((Below.refl _ _).alloc (Nat.le_refl _) _).alloc (by simp) _, by simp, ?_⟩ <;> intro w' h <;> constructor
  · rw [h.cell (by simp; omega)]; simp [go_sem, World.cell?_alloc_old]
  · rw [h.cell (by simp)]; simp [go_sem]

set_option maxHeartbeats 1000000 in
theorem cmp_n {x y : Value} {a b : Nat} {w : World} (hx : NatV w x a) (hy : NatV w y b) :
    Calls Tryz.prog 23 #[.agg #[x], .agg #[y]] w (fun e w' => e = .returned (.int .i64 (cmpN a b)) ∧ Ext w w') := by
  go_enter Tryz.func23, Tryz.ntmps23
  go_wp2
  have hB := box2 w x y 25
  generalize (w.alloc (.cells #[x] 25)).alloc (.cells #[y] 25) = W0 at *
  have hL0 : Ext W0 W0.drew := (Below.refl _ _).drew
  have hA0 : NatV W0.drew x a := (hx.below hB.ext).drew
  have hB0 : NatV W0.drew y b := (hy.below hB.ext).drew
  have HB := Lib.hid hB
  clear hB
  go_region_held3 (fun w' => w'.cell? ⟨w.heap.size, 0, none⟩ = some x ∧ w'.cell? ⟨w.heap.size + 1, 0, none⟩ = some y)
    (first | exact HB.out.rd _ hL3 | exact HB.out.rd _ hL2 | exact HB.out.rd _ hL1 | exact HB.out.rd _ hL0)
    (first
      | (go_at_call 42; (with_reducible refine (limbs_n hA0).mono ?_); rintro e w1 ⟨v1, rfl, h1, x1, n1⟩; have hL1 := hL0.trans x1)
      | (go_at_call 42; (with_reducible refine (limbs_n (hB0.below x1)).mono ?_); rintro e w2 ⟨v2, rfl, h2, x2, n2⟩; have hL2 := hL1.trans x2)
      | (go_at_call 41; (with_reducible refine (compare_any (h1.below x2) h2).mono ?_); rintro e w3 ⟨rfl, x3⟩; have hL3 := hL2.trans x3))
  go_wp2
  go_ret
  exact ⟨rfl, HB.out.ext.trans hL3⟩

set_option maxHeartbeats 1000000 in
theorem sub_lt {x y : Value} {a b : Nat} {w : World} (hx : NatV w x a) (hy : NatV w y b) (hlt : a < b) :
    Calls Tryz.prog 75 #[.agg #[x], .agg #[y]] w (fun e w' => e = .returned (.tuple #[.agg #[.slice none 0 0], .int .i64 2]) ∧ Ext w w') := by
  have hc : cmpN a b < 0 := cmpN_neg.2 hlt
  go_enter Tryz.func75, Tryz.ntmps75
  go_wp2
  have hB := box3 w x y 25
  generalize ((w.alloc (.cells #[x] 25)).alloc (.cells #[y] 25)).alloc (.cells #[.slice none 0 0] 25) = W0 at *
  have hE0 : Ext W0 W0.drew := (Below.refl _ _).drew
  have hL0 : Below (w.heap.size + 1 + 1) W0 W0.drew := (Below.refl _ _).drew
  have hA0 : NatV W0.drew x a := (hx.below hB.ext).drew
  have hB0 : NatV W0.drew y b := (hy.below hB.ext).drew
  have HB := Lib.hid hB
  clear hB
  go_region_held3 (fun w' => w'.cell? ⟨w.heap.size, 0, none⟩ = some x ∧ w'.cell? ⟨w.heap.size + 1, 0, none⟩ = some y)
    (first | exact HB.out.rd _ hL2 | exact HB.out.rd _ hL1 | exact HB.out.rd _ hL0)
    (first
      | (go_at_call 42; (with_reducible refine (limbs_n hA0).mono ?_); rintro e w1 ⟨v1, rfl, h1, x1, n1⟩; have hL1 := HB.out.low hL0 x1)
      | (go_at_call 42; (with_reducible refine (limbs_n (hB0.below x1)).mono ?_); rintro e w2 ⟨v2, rfl, h2, x2, n2⟩; have hL2 := HB.out.low hL1 x2))
  have hE2 := (hE0.trans x1).trans x2
  go_wp2_with fail
  refine (compare_any (h1.below x2) h2).mono ?_
  rintro e w3 ⟨rfl, x3⟩
  obtain ⟨z3, zf3⟩ := HB.out.zc _ (hE2.trans x3)
  generalize cmpN a b = c at *
  go_wp2
  refine bodyPost_ret (v := .tuple #[.agg #[.slice none 0 0], .int .i64 2]) (by simp [results, Tryz.results75, go_sem, World.cell?_setCell_same _ _ _ z3]) rfl ?_
  exact ⟨rfl, HB.out.fin (hE2.trans x3) _⟩

set_option maxHeartbeats 1000000 in
theorem sub_ge {x y : Value} {a b : Nat} {w : World} (hx : NatV w x a) (hy : NatV w y b) (hge : b ≤ a) (ha : (limbsOf a).length ≤ 4398046511104) :
    Calls Tryz.prog 75 #[.agg #[x], .agg #[y]] w (fun e w' => ∃ A k c, e = .returned (.tuple #[.agg #[.slice A k c], .int .i64 0]) ∧ CanV w' (.slice A k c) (a - b) ∧ Ext w w' ∧ New w.heap.size (.slice A k c)) := by
  have hc : 0 ≤ cmpN a b := by have := @cmpN_neg a b; omega
  go_enter Tryz.func75, Tryz.ntmps75
  go_wp2
  have hB := box3 w x y 25
  generalize ((w.alloc (.cells #[x] 25)).alloc (.cells #[y] 25)).alloc (.cells #[.slice none 0 0] 25) = W0 at *
  have hE0 : Ext W0 W0.drew := (Below.refl _ _).drew
  have hL0 : Below (w.heap.size + 1 + 1) W0 W0.drew := (Below.refl _ _).drew
  have hA0 : NatV W0.drew x a := (hx.below hB.ext).drew
  have hB0 : NatV W0.drew y b := (hy.below hB.ext).drew
  have HB := Lib.hid hB
  clear hB
  go_region_held3 (fun w' => w'.cell? ⟨w.heap.size, 0, none⟩ = some x ∧ w'.cell? ⟨w.heap.size + 1, 0, none⟩ = some y)
    (first | exact HB.out.rd _ hL2 | exact HB.out.rd _ hL1 | exact HB.out.rd _ hL0)
    (first
      | (go_at_call 42; (with_reducible refine (limbs_n hA0).mono ?_); rintro e w1 ⟨v1, rfl, h1, x1, n1⟩; have hL1 := HB.out.low hL0 x1)
      | (go_at_call 42; (with_reducible refine (limbs_n (hB0.below x1)).mono ?_); rintro e w2 ⟨v2, rfl, h2, x2, n2⟩; have hL2 := HB.out.low hL1 x2))
  have hE2 := (hE0.trans x1).trans x2
  go_wp2_with fail
  refine (compare_any (h1.below x2) h2).mono ?_
  rintro e w3 ⟨rfl, x3⟩
  generalize cmpN a b = c at *
  go_wp2_with fail
  refine (minus_any ((h1.below x2).below x3) (h2.below x3) ha hge).mono ?_
  rintro e w4 ⟨v4, rfl, h4, x4, n4⟩
  go_wp2_with fail
  refine (made_c h4 n4).mono ?_
  rintro e w5 ⟨A5, k5, c5, rfl, h5, x5, n5⟩
  have hE3 := hE2.trans x3
  obtain ⟨z5, zf5⟩ := HB.out.zc _ ((hE3.trans x4).trans x5)
  go_wp2
  refine bodyPost_ret (v := .tuple #[.agg #[.slice A5 k5 c5], .int .i64 0]) (by simp [results, Tryz.results75, go_sem, World.cell?_setCell_same _ _ _ z5]) rfl ?_
  exact ⟨_, _, _, rfl, HB.out.res hE3 h5 n5 _, HB.out.fin ((hE3.trans x4).trans x5) _, HB.out.new hE3 n5⟩

/-- Four boxes. -/
structure Box4 (w W0 : World) (x y : Value) : Prop where
  ext : Ext w W0
  size : W0.heap.size = w.heap.size + 1 + 1 + 1 + 1
  rd : ∀ w', Below (w.heap.size + 1 + 1) W0 w' → w'.cell? ⟨w.heap.size, 0, none⟩ = some x ∧ w'.cell? ⟨w.heap.size + 1, 0, none⟩ = some y
  zc : ∀ w', Ext W0 w' → w'.cell? ⟨w.heap.size + 1 + 1, 0, none⟩ = some (.slice none 0 0) ∧ w'.frozen? ⟨w.heap.size + 1 + 1, 0, none⟩ = false
  yc : ∀ w', Ext W0 w' → w'.cell? ⟨w.heap.size + 1 + 1 + 1, 0, none⟩ = some (.slice none 0 0) ∧ w'.frozen? ⟨w.heap.size + 1 + 1 + 1, 0, none⟩ = false

theorem box4 (w : World) (x y : Value) (t : TypeId) : Box4 w ((((w.alloc (.cells #[x] t)).alloc (.cells #[y] t)).alloc (.cells #[.slice none 0 0] t)).alloc (.cells #[.slice none 0 0] t)) x y := by
  refine ⟨((((Below.refl _ _).alloc (Nat.le_refl _) _).alloc (by simp) _).alloc (by simp; omega) _).alloc (by simp; omega) _, by simp, ?_, ?_, ?_⟩ <;> intro w' h <;> constructor
  · rw [h.cell (by simp; omega)]; simp [go_sem, World.cell?_alloc_old]
  · rw [h.cell (by simp)]; simp [go_sem, World.cell?_alloc_old]
  · rw [h.cell (by simp)]; simp [go_sem, World.cell?_alloc_old]
  · rw [h.frozen (by simp)]; simp [go_sem, World.frozen?_alloc_old]
  · rw [h.cell (by simp)]; simp [go_sem]
  · rw [h.frozen (by simp)]; simp [go_sem]

theorem two_cells {w : World} {p q : Addr} {u v x y : Value} (hp : w.cell? p = some x) (hq : w.cell? q = some y) (hne : p ≠ q) :
    ((w.setCell p u).setCell q v).cell? p = some u ∧ ((w.setCell p u).setCell q v).cell? q = some v :=
  ⟨by rw [World.cell?_setCell_other _ _ _ _ (Ne.symm hne)]; exact World.cell?_setCell_same _ _ _ hp, World.cell?_setCell_same _ _ _ (by rw [World.cell?_setCell_other _ _ _ _ hne]; exact hq)⟩

theorem limbs_zero_len {b : Nat} (h : b = 0) : (limbsOf b).length = 0 := by subst h; rw [limbsOf_zero]; rfl
theorem limbs_pos_len {b : Nat} (h : 0 < b) : 0 < (limbsOf b).length := by
  rcases Nat.eq_zero_or_pos (limbsOf b).length with h0 | h0
  · have := (limbsOf_nil_iff b).1 (List.eq_nil_of_length_eq_zero h0); omega
  · exact h0

set_option maxHeartbeats 1000000 in
theorem divmod_zero {x y : Value} {w : World} (hy : NatV w y 0) :
    Calls Tryz.prog 51 #[.agg #[x], .agg #[y]] w (fun e w' => e = .returned (.tuple #[.agg #[.slice none 0 0], .agg #[.slice none 0 0], .int .i64 12]) ∧ Ext w w') := by
  go_enter Tryz.func51, Tryz.ntmps51
  go_upto_region 1 with (fail)
  have hB := box4 w x y 25
  generalize (((w.alloc (.cells #[x] 25)).alloc (.cells #[y] 25)).alloc (.cells #[.slice none 0 0] 25)).alloc (.cells #[.slice none 0 0] 25) = W0 at *
  have hy0 : NatV W0 y 0 := hy.below hB.ext
  obtain ⟨_, hyc⟩ := hB.rd W0 (Below.refl _ _)
  have HB := Lib.hid hB
  clear hB
  go_wp2_with fail
  refine (limbs_n hy0).mono ?_
  rintro e w1 ⟨v1, rfl, h1, x1, n1⟩
  obtain ⟨A1, c1, rfl, _, _, _⟩ := h1
  rw [limbs_zero_len rfl]
  obtain ⟨z1, zf1⟩ := HB.out.zc _ x1
  obtain ⟨y1, yf1⟩ := HB.out.yc _ x1
  go_wp2
  refine bodyPost_ret (v := .tuple #[.agg #[.slice none 0 0], .agg #[.slice none 0 0], .int .i64 12]) (by obtain ⟨e1, e2⟩ := two_cells (u := .slice none 0 0) (v := .slice none 0 0) z1 y1 (by simp); simp [results, Tryz.results51, go_sem, e1, e2]) rfl ?_
  exact ⟨rfl, ((HB.out.ext.trans x1).setCell (by show w.heap.size ≤ w.heap.size + 1 + 1; omega) _).setCell (by show w.heap.size ≤ w.heap.size + 1 + 1 + 1; omega) _⟩

/-- What 'DivMod' answers to a divisor that is not 0. -/
def DivModR (w : World) (a b : Nat) (e : Ending) (w' : World) : Prop := ∃ A k c A' k' c', e = .returned (.tuple #[.agg #[.slice A k c], .agg #[.slice A' k' c'], .int .i64 0]) ∧ CanV w' (.slice A k c) (a / b) ∧ CanV w' (.slice A' k' c') (a % b) ∧ Ext w w' ∧ New w.heap.size (.slice A k c) ∧ New w.heap.size (.slice A' k' c')

set_option maxHeartbeats 1000000 in
theorem divmod_pos {x y : Value} {a b : Nat} {w : World} (hx : NatV w x a) (hy : NatV w y b) (hb : 0 < b) (hl : (limbsOf a).length ≤ 2199023255552) :
    Calls Tryz.prog 51 #[.agg #[x], .agg #[y]] w (DivModR w a b) := by
  go_enter Tryz.func51, Tryz.ntmps51
  go_upto_region 1 with (fail)
  have hB := box4 w x y 25
  generalize (((w.alloc (.cells #[x] 25)).alloc (.cells #[y] 25)).alloc (.cells #[.slice none 0 0] 25)).alloc (.cells #[.slice none 0 0] 25) = W0 at *
  have hy0 : NatV W0 y b := hy.below hB.ext
  have hx0 : NatV W0 x a := hx.below hB.ext
  obtain ⟨_, hyc⟩ := hB.rd W0 (Below.refl _ _)
  have HB := Lib.hid hB
  clear hB
  go_wp2_with fail
  refine (limbs_n hy0).mono ?_
  rintro e w1 ⟨v1, rfl, h1, x1, n1⟩
  obtain ⟨A1, c1, rfl, _, _, _⟩ := id h1
  have hlp := limbs_pos_len hb
  obtain ⟨hxc1, _⟩ := HB.out.rd w1 (x1.mono (by have := HB.out.size; omega))
  go_wp2_with fail
  refine (limbs_n (hx0.below x1)).mono ?_
  rintro e w2 ⟨v2, rfl, h2, x2, n2⟩
  have hs2 : w.heap.size + 1 + 1 + 1 < w2.heap.size := by have := HB.out.size; have := x1.size; have := x2.size; omega
  have hs1 : w.heap.size + 1 + 1 + 1 < w1.heap.size := by have := HB.out.size; have := x1.size; omega
  go_wp2_with fail
  refine (divide_any n2 x2.size h2 (h1.below x2) hb hl).mono ?_
  rintro e w3 ⟨q, r, rfl, hq, hr, x3, nq, nr⟩
  go_wp2_with fail
  refine (made_c hq nq).mono ?_
  rintro e w4 ⟨A4, k4, c4, rfl, h4, x4, n4⟩
  go_wp2_with fail
  refine (made_c (hr.below x4) nr).mono ?_
  rintro e w5 ⟨A5, k5, c5, rfl, h5, x5, n5⟩
  have hx5 := ((x1.trans x2).trans x3).trans (x4.trans x5)
  obtain ⟨z5, zf5⟩ := HB.out.zc _ hx5
  obtain ⟨y5, yf5⟩ := HB.out.yc _ hx5
  go_wp2
  refine bodyPost_ret (v := .tuple #[.agg #[.slice A4 k4 c4], .agg #[.slice A5 k5 c5], .int .i64 0]) (by obtain ⟨e1, e2⟩ := two_cells (u := .slice A4 k4 c4) (v := .slice A5 k5 c5) z5 y5 (by simp); simp [results, Tryz.results51, go_sem, e1, e2]) rfl ?_
  refine ⟨_, _, _, _, _, _, rfl, ?_, ?_, ((HB.out.ext.trans hx5).setCell (by show w.heap.size ≤ w.heap.size + 1 + 1; omega) _).setCell (by show w.heap.size ≤ w.heap.size + 1 + 1 + 1; omega) _, n4.mono (by omega), n5.mono (by omega)⟩
  · exact ((h4.below x5).setNew n4 (by show w.heap.size + 1 + 1 < _; omega) _).setNew n4 (by show w.heap.size + 1 + 1 + 1 < _; omega) _
  · exact (U32s.setNew h5 n5 (by show w.heap.size + 1 + 1 < _; omega) _).setNew n5 (by show w.heap.size + 1 + 1 + 1 < _; omega) _

theorem ofLimbs_val (n : Nat) : val [n % 1000000000, n / 1000000000 % 1000000000, n / 1000000000 / 1000000000] = n := by simp only [val]; omega
theorem ofLimbs_digs {n : Nat} (h : n < 18446744073709551616) : Digs [n % 1000000000, n / 1000000000 % 1000000000, n / 1000000000 / 1000000000] := by
  intro x hx
  simp only [List.mem_cons, List.not_mem_nil, or_false] at hx
  rcases hx with rfl | rfl | rfl <;> omega

set_option maxHeartbeats 1000000 in
theorem of_n {n : Nat} {w : World} (hn : n < 18446744073709551616) :
    Calls Tryz.prog 49 #[.int .u64 n] w (GivesN w n) := by
  have hn' : (n : Int) < 18446744073709551616 := by omega
  go_enter Tryz.func49, Tryz.ntmps49
  go_wp2_with fail
  have hd := ofLimbs_digs hn
  have hv := ofLimbs_val n
  have hu : U32s ((w.alloc (.cells #[.slice none 0 0] 25)).alloc (.cells #[.int .u32 ((n : Int) % 1000000000), .int .u32 ((n : Int) / 1000000000 % 1000000000), .int .u32 ((n : Int) / 1000000000 / 1000000000)] 91))
      (.slice (some ⟨w.heap.size + 1, 0, none⟩) 3 3) [n % 1000000000, n / 1000000000 % 1000000000, n / 1000000000 / 1000000000] := by
    refine U32s.of_own (base := w.heap.size) (e := 91) ?_ (Nat.le_refl _) (by omega)
    have := World.ownsRow_lit (base := w.heap.size) (e := 91) (size := 1) (w.alloc (.cells #[.slice none 0 0] 25)) #[.int .u32 ((n : Int) % 1000000000), .int .u32 ((n : Int) / 1000000000 % 1000000000), .int .u32 ((n : Int) / 1000000000 / 1000000000)] 3 (by simp) (by unfold maxLen; omega) rfl
    simpa [u32s] using this
  have hxW : Ext w ((w.alloc (.cells #[.slice none 0 0] 25)).alloc (.cells #[.int .u32 ((n : Int) % 1000000000), .int .u32 ((n : Int) / 1000000000 % 1000000000), .int .u32 ((n : Int) / 1000000000 / 1000000000)] 91)) :=
    ((Below.refl _ _).alloc (Nat.le_refl _) _).alloc (by simp) _
  have hz : ∀ w', Ext ((w.alloc (.cells #[.slice none 0 0] 25)).alloc (.cells #[.int .u32 ((n : Int) % 1000000000), .int .u32 ((n : Int) / 1000000000 % 1000000000), .int .u32 ((n : Int) / 1000000000 / 1000000000)] 91)) w' →
      w'.cell? ⟨w.heap.size, 0, none⟩ = some (.slice none 0 0) ∧ w'.frozen? ⟨w.heap.size, 0, none⟩ = false := by
    intro w' h
    exact ⟨by rw [h.cell (by simp; omega)]; simp [go_sem, World.cell?_alloc_old], by rw [h.frozen (by simp; omega)]; simp [go_sem, World.frozen?_alloc_old]⟩
  generalize (w.alloc (.cells #[.slice none 0 0] 25)).alloc (.cells #[.int .u32 ((n : Int) % 1000000000), .int .u32 ((n : Int) / 1000000000 % 1000000000), .int .u32 ((n : Int) / 1000000000 / 1000000000)] 91) = W0 at *
  refine (made_any hu hd (New.at_ (Nat.le_refl _))).mono ?_
  rintro e w1 ⟨A1, k1, c1, rfl, h1, x1, n1⟩
  rw [hv] at h1
  clear hv hd
  obtain ⟨z1, zf1⟩ := hz _ x1
  clear hz
  go_wp2
  refine bodyPost_ret (v := .agg #[.slice A1 k1 c1]) (by simp [results, Tryz.results49, go_sem, World.cell?_setCell_same _ _ _ z1]) rfl ?_
  exact ⟨_, _, _, rfl, U32s.setNew h1 n1 (Nat.lt_succ_self _) _, (hxW.trans x1).setCell (Nat.le_refl _) _, n1.mono (by omega)⟩

end Go.Proofs.YtbplkienkhinmaaGreatDoor
namespace Go.Proofs.YtbplkienkhinmaaGreatDoor
open Go.RowKit Num

/-- The answer's box: the call's first block. -/
theorem res_box {w w1 : World} {v u : Value} {n : Nat} (hE : Ext w w1) (h : CanV w1 v n) (hn : New (w.heap.size + 1) v) :
    CanV (w1.setCell ⟨w.heap.size, 0, none⟩ u) v n ∧ Ext w (w1.setCell ⟨w.heap.size, 0, none⟩ u) ∧ New w.heap.size v :=
  ⟨U32s.setNew h hn (Nat.lt_succ_self _) _, hE.setCell (Nat.le_refl _) _, hn.mono (by omega)⟩
theorem box_new {w w1 : World} {v : Value} {t : TypeId} (x1 : Ext (w.alloc (.cells #[v] t)) w1) : w1.cell? ⟨w.heap.size, 0, none⟩ = some v ∧ w1.frozen? ⟨w.heap.size, 0, none⟩ = false :=
  ⟨by rw [x1.cell (p := ⟨w.heap.size, 0, none⟩) (by simp)]; simp [go_sem], by rw [x1.frozen (p := ⟨w.heap.size, 0, none⟩) (by simp)]; simp [go_sem]⟩
theorem ext_new {w w1 : World} {o : Obj} (x1 : Ext (w.alloc o) w1) : Ext w w1 := (ext_alloc (Below.refl _ _) o).trans x1

/-- A box that holds a canonical Natural. -/
def OutB (W : World) (b B n : Nat) (wr : World) : Prop :=
  ∃ A m c, wr.cell? ⟨b, 0, none⟩ = some (.slice A m c) ∧ wr.frozen? ⟨b, 0, none⟩ = false ∧ CanV wr (.slice A m c) n ∧ Ext W wr ∧ New B (.slice A m c)
theorem OutB.ext {W : World} {b B n : Nat} {wr : World} (h : OutB W b B n wr) : Ext W wr := by obtain ⟨_, _, _, _, _, _, h, _⟩ := h; exact h
theorem OutB.start {W : World} {A : Option Addr} {m c n B : Nat} (h : CanV W (.slice A m c) n) (hn : New B (.slice A m c)) (t : TypeId) : OutB W W.heap.size B n (W.alloc (.cells #[.slice A m c] t)) :=
  ⟨A, m, c, by simp [go_sem], by simp [go_sem], h.alloc _, ext_alloc (Below.refl _ _) _, hn⟩
theorem OutB.set {W w6 : World} {A : Option Addr} {m c n B B' b : Nat} {u : Value} (hc : w6.cell? ⟨b, 0, none⟩ = some u) (hf : w6.frozen? ⟨b, 0, none⟩ = false) (h : CanV w6 (.slice A m c) n) (hE : Ext W w6) (hn : New B' (.slice A m c)) (hb : b < B') (hB : B ≤ B') (hW : W.heap.size ≤ b) :
    OutB W b B n (w6.setCell ⟨b, 0, none⟩ (.slice A m c)) :=
  ⟨A, m, c, World.cell?_setCell_same _ _ _ hc, by rw [World.frozen?_setCell]; exact hf, U32s.setNew h hn hb _, ext_set hE hW _, hn.mono hB⟩
theorem fit_small {n : Nat} (h : n < 1000000000) : Fit n := by unfold Fit; have := len_small h; omega

theorem wrap_in {z : Int} (h : -9223372036854775808 ≤ z ∧ z ≤ 9223372036854775807) : IntKind.i64.wrap z = z := by rw [IntKind.wrap_i64]; omega

/-- A Natural and an error number. -/
def GivesT (w : World) (n : Nat) (er : Int) (e : Ending) (w' : World) : Prop :=
  ∃ A k c, e = .returned (.tuple #[.agg #[.slice A k c], .int .i64 er]) ∧ CanV w' (.slice A k c) n ∧ Ext w w' ∧ New w.heap.size (.slice A k c)
theorem GivesT.zero {w : World} {er : Int} {t : TypeId} {u : Value} : GivesT w 0 er (.returned (.tuple #[.agg #[.slice none 0 0], .int .i64 er])) (w.alloc (.cells #[u] t)) :=
  ⟨none, 0, 0, rfl, CanV.nil_ _, ext_alloc (Below.refl _ _) _, New.nil_ _⟩

def okE (p : Prop) [Decidable p] : Int := if p then 0 else 2

/-- The end: the answer stored in its box. -/
theorem GivesT.box {w w1 : World} {A : Option Addr} {m c n : Nat} {er : Int} (hE : Ext w w1) (h : CanV w1 (.slice A m c) n) (hn : New (w.heap.size + 1) (.slice A m c)) :
    GivesT w n er (.returned (.tuple #[.agg #[.slice A m c], .int .i64 er])) (w1.setCell ⟨w.heap.size, 0, none⟩ (.slice A m c)) := by
  obtain ⟨r1, r2, r3⟩ := res_box (u := .slice A m c) hE h hn
  exact ⟨_, _, _, rfl, r1, r2, r3⟩

theorem cell_one (W : World) (u : Value) (t : TypeId) : ∀ j x, [u][j]? = some x → (W.alloc (.cells #[u] t)).cell? ((⟨W.heap.size, 0, none⟩ : Addr).add j) = some x := by
  intro j x hx
  match j, hx with
  | 0, hx => simp at hx; subst hx; simp [Addr.add, go_sem]

theorem cmpN_self (n : Nat) : cmpN n n = 0 := by simp [cmpN]
theorem cmp_same {x y : Value} {n : Nat} {w : World} (hx : NatV w x n) (hy : NatV w y n) :
    Calls Tryz.prog 23 #[.agg #[x], .agg #[y]] w (fun e w' => e = .returned (.int .i64 0) ∧ Ext w w') := by
  have := cmp_n hx hy
  rwa [cmpN_self] at this

theorem nof_e {z : Int} {m : Nat} {w : World} (he : z = (m : Int)) (hm : m < 18446744073709551616) : Calls Tryz.prog 49 #[.int .u64 z] w (GivesN w m) := by
  subst he; exact of_n hm

end Go.Proofs.YtbplkienkhinmaaGreatDoor
namespace Go.Proofs.YtbplkienkhinmaaGreatDoor
open Go.RowKit Num

set_option maxHeartbeats 1000000 in
theorem gcd_n {x y : Value} {a b : Nat} {w : World} (hx : NatV w x a) (hy : NatV w y b) (ha : (limbsOf a).length ≤ 2199023255552) (hb : (limbsOf b).length ≤ 2199023255552) :
    Calls Tryz.prog 50 #[.agg #[x], .agg #[y]] w (GivesN w (Nat.gcd a b)) := by
  go_enter Tryz.func50, Tryz.ntmps50
  go_wp2
  have hB := box3 w x y 25
  generalize ((w.alloc (.cells #[x] 25)).alloc (.cells #[y] 25)).alloc (.cells #[.slice none 0 0] 25) = W0 at *
  have hE0 : Ext W0 W0.drew := (Below.refl _ _).drew
  have hL0 : Below (w.heap.size + 1 + 1) W0 W0.drew := (Below.refl _ _).drew
  have hA0 : NatV W0.drew x a := (hx.below hB.ext).drew
  have hB0 : NatV W0.drew y b := (hy.below hB.ext).drew
  have HB := Lib.hid hB
  clear hB
  go_region_held3 (fun w' => w'.cell? ⟨w.heap.size, 0, none⟩ = some x ∧ w'.cell? ⟨w.heap.size + 1, 0, none⟩ = some y)
    (first | exact HB.out.rd _ hL2 | exact HB.out.rd _ hL1 | exact HB.out.rd _ hL0)
    (first
      | (go_at_call 42; (with_reducible refine (limbs_n hA0).mono ?_); rintro e w1 ⟨v1, rfl, h1, x1, n1⟩; have hL1 := HB.out.low hL0 x1)
      | (go_at_call 42; (with_reducible refine (limbs_n (hB0.below x1)).mono ?_); rintro e w2 ⟨v2, rfl, h2, x2, n2⟩; have hL2 := HB.out.low hL1 x2))
  have hE2 := (hE0.trans x1).trans x2
  have h1' := h1.below x2
  have hsz : W0.heap.size = w.heap.size + 1 + 1 + 1 := HB.out.size
  have n1' : New W0.heap.size v1 := n1.mono hE0.size
  have n2' : New W0.heap.size v2 := n2.mono (hE0.trans x1).size
  have HSZ := Lib.hid hsz
  clear hsz hL0 hL1 hL2 x1 h1 n1 n2 hA0 hB0 hE0
  go_wp2
  go_loopg [5, 6] b (fun g p q wr => ∃ a' : Nat, CanV wr p a' ∧ CanV wr q g ∧ New W0.heap.size p ∧ New W0.heap.size q ∧ Nat.gcd a' g = Nat.gcd a b ∧ (limbsOf a').length ≤ 2199023255552 ∧ (limbsOf g).length ≤ 2199023255552 ∧ Ext W0 wr)
  case atStart => exact ⟨a, h1', h2, n1', n2', rfl, ha, hb, hE2⟩
  case round =>
    obtain ⟨a', hp, hq, np, nq, hg, hla, hlb, hbr⟩ := hrel
    have HG := Lib.hid hg
    clear hg
    obtain ⟨A2, c2, rfl, q2, q3, _⟩ := id hq
    by_cases hz : gk = 0
    · subst hz
      have hl0 := limbs_zero_len (b := 0) rfl
      rw [hl0]
      have hlen := Lib.hid hl0
      clear hl0
      go_wp2_with fail
      refine (made_c hp np).mono ?_
      rintro e w3 ⟨A3, k3, c3, rfl, h3, x3, n3⟩
      obtain ⟨z3, zf3⟩ := HB.out.zc _ (hbr.trans x3)
      go_wp2
      refine bodyPost_ret (v := .agg #[.slice A3 k3 c3]) (by simp [results, Tryz.results50, go_sem, World.cell?_setCell_same _ _ _ z3]) rfl ?_
      have hg' := HG.out
      rw [Nat.gcd_zero_right] at hg'
      rw [← hg']
      exact ⟨_, _, _, rfl, HB.out.res (Below.refl _ _) h3 n3 _, HB.out.fin (hbr.trans x3) _, HB.out.new (Below.refl _ _) n3⟩
    · have hlp := limbs_pos_len (Nat.pos_of_ne_zero hz)
      go_wp2_with fail
      refine (divide_any np hbr.size hp hq (Nat.pos_of_ne_zero hz) hla).mono ?_
      rintro e w3 ⟨q, r, rfl, hqq, hr, x3, _, nr⟩
      go_wp2
      go_roundg (a' % gk)
      case rel => exact ⟨gk, hq.below x3, hr, nq, nr, by rw [Nat.gcd_comm, ← Nat.gcd_rec, Nat.gcd_comm]; exact HG.out, hlb, Nat.le_trans (limbsOf_length_mono (Nat.mod_le _ _)) hla, hbr.trans x3⟩
      case measure => exact Nat.mod_lt _ (Nat.pos_of_ne_zero hz)

end Go.Proofs.YtbplkienkhinmaaGreatDoor
namespace Go.Proofs.YtbplkienkhinmaaGreatDoor
open Go.RowKit Num

end Go.Proofs.YtbplkienkhinmaaGreatDoor
