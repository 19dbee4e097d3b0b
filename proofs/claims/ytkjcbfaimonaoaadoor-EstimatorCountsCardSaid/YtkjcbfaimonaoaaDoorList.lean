/- Lists of Naturals: slices that the call itself made, each element canonical; append with what it says of where the answer lies. No program is named here. -/
import Derived.Test.YtkjcbfaimonaoaaDoorApp
set_option linter.unusedVariables false
set_option linter.unusedSimpArgs false
namespace Go.Proofs.YtkjcbfaimonaoaaDoor
open Go.RowKit Num

section
variable {w : World} {base e size : Nat} {v : Value} {n : Nat} {xs : List Value}
theorem ownsRow_base {b b' : Nat} {e : TypeId} (h : w.ownsRow b e size v n xs) (hb : b' ≤ b) : w.ownsRow b' e size v n xs := by
  refine ⟨h.1, ?_⟩
  rcases h.2 with hn | ⟨g, cap, cur, h1, h2, h3⟩
  · exact .inl hn
  · exact .inr ⟨g, cap, cur, h1, Nat.le_trans hb h2, h3⟩
end

section
variable {P : Program} (w : World)
/-- append to a row of the call's own: as the kit's law has it, and besides: the answer lies in the same block or in new memory. -/
theorem run_append_mine (base : Nat) (t ty e : TypeId) (i : TypeInfo) (z : Value) (size bytes : Nat) (ht : P.underlying t = some (.slice e)) (hi : P.info? e = some i) (hz : i.zero = some z)
    (hsize : i.size = size) (hby : i.bytes = bytes) (hzs : z.cells.size = size) (hsz : 0 < size)
    (v : Value) (n : Nat) (xs : List Value) (hown : w.ownsRow base e size v n xs)
    (a : Addr) (m c : Nat) (news : List Value) (hl : news.length = m * size) (hnews : ∀ j u, news[j]? = some u → w.cell? (a.add j) = some u) (h1 : ∀ u ∈ news, u.oneCell' = true)
    (h63 : n + m ≤ maxLen) (hbytes : (n + m) * bytes ≤ 140737488355328) (hbase : base ≤ w.heap.size) :
    ∃ v' w', (Builtin.append_ #[t, t] ty #[v, .slice (some a) m c]).run P w = .ok v' w' ∧ w'.ownsRow base e size v' (n + m) (xs ++ news) ∧ w.grownBy w' v.ownBlock ∧ (v'.ownBlock = v.ownBlock ∨ New w.heap.size v') := by
  rcases hown.2 with ⟨rfl, rfl⟩ | ⟨g, cap, cur, rfl, hbg, hg, hnc, hcm, hcs, htake⟩
  · have hx : xs = [] := List.eq_nil_of_length_eq_zero (by simpa using hown.1)
    subst hx
    obtain ⟨v', w', h2, h3, h4, h5⟩ := run_append_own (P := P) w w.heap.size t ty e i z size bytes ht hi hz hsize hby hzs hsz (.slice none 0 0) 0 [] (World.ownsRow_nil w _ e size) a m c news hl hnews h1 h63 hbytes (Nat.le_refl _)
    exact ⟨v', w', h2, ownsRow_base h3 hbase, h4, .inr fun b hb => (h3.lt b hb).1⟩
  · by_cases hroom : n + m ≤ cap
    · subst hsize
      subst hby
      have hfit : n * i.size + news.length ≤ cur.size := by rw [hl, hcs, ← Nat.add_mul]; exact Nat.mul_le_mul_right _ hroom
      have hlen : (xs ++ news).length = (n + m) * i.size := by rw [List.length_append, hown.1, hl, Nat.add_mul]
      have hr := run_append_room (P := P) w t ty e i ht hi g n cap cur hg a m c news hl hnews h1 hroom hfit
      refine ⟨_, _, hr, ⟨hlen, .inr ⟨g, cap, _, rfl, hbg, setRow_heap w g cur _ e _ hg, hroom, hcm, ?_, ?_⟩⟩, ⟨rfl, rfl, rfl, by simp, fun k _ hk => setRow_other w g k _ (fun e => hk (by simp [Value.ownBlock, e]))⟩, .inl rfl⟩
      · simp only [List.size_toArray, List.length_append, List.length_take, List.length_drop, Array.length_toList]
        omega
      · rw [htake, ← hlen]
        exact List.take_left
    · have holds : ∀ j u, xs[j]? = some u → w.cell? ((⟨g, 0, none⟩ : Addr).add j) = some u := hown.cells (g := g) rfl
      obtain ⟨v', w', h2, h3, h4⟩ := run_append_arg_grows (P := P) w t ty e i z size bytes ht hi hz hsize hby hzs hsz ⟨g, 0, none⟩ n cap xs hown.1 holds a m c news hl hnews (by omega) h63 hbytes
      exact ⟨v', w', h2, ownsRow_base h3 hbase, ⟨h4.os, h4.tape, h4.output, h4.size, fun k hk _ => h4.block k hk (by simp)⟩, .inr fun b hb => (h3.lt b hb).1⟩
end

theorem wpList_append_mine {P : Program} (w : World) {ops : Array Oper} {rest : List Oper} {o : Oper} {a : Act} {Q : Exit → Act → World → Prop} (hgd : o.guard = none) (s x : Operand) (t : TypeId)
    (hop : o.op = .call { callee := .builtin .append, args := #[s, x], argTypes := #[t, t] })
    (base : Nat) (e : TypeId) (i : TypeInfo) (z : Value) (size bytes : Nat) (ht : P.underlying t = some (.slice e)) (hi : P.info? e = some i) (hz : i.zero = some z)
    (hsize : i.size = size) (hby : i.bytes = bytes) (hzs : z.cells.size = size) (hsz : 0 < size)
    (v : Value) (n : Nat) (xs : List Value) (hs : a.eval s = v) (hown : w.ownsRow base e size v n xs)
    (ad : Addr) (m c : Nat) (news : List Value) (hx : a.eval x = .slice (some ad) m c) (hl : news.length = m * size) (hnews : ∀ j u, news[j]? = some u → w.cell? (ad.add j) = some u) (h1 : ∀ u ∈ news, u.oneCell' = true)
    (h63 : n + m ≤ maxLen) (hbytes : (n + m) * bytes ≤ 140737488355328) (hbase : base ≤ w.heap.size)
    (h : ∀ v' w', w'.ownsRow base e size v' (n + m) (xs ++ news) → w.grownBy w' v.ownBlock → (v'.ownBlock = v.ownBlock ∨ New w.heap.size v') → wpList P ops Q rest (a.put o.dst v') w') : wpList P ops Q (o :: rest) a w := by
  refine wpList_plain hgd fun K hK' => ?_
  obtain ⟨v', w', hrun, k1, k2, k3⟩ := run_append_mine (P := P) w base t o.type e i z size bytes ht hi hz hsize hby hzs hsz v n xs hown ad m c news hl hnews h1 h63 hbytes hbase
  unfold Oper.wp
  simp [execOp, hop, resolve, invoke, builtin, hs, hx, hrun, Result.andThen]
  exact hK' _ _ (h _ _ k1 k2 k3)

theorem step_append_mine {P : Program} (w : World) {ops : Array Oper} {o : Oper} {a : Act} {K : Act → World → Prop} {Q : Exit → Act → World → Prop} {E : Prop} (hgd : o.guard = none) (s x : Operand) (t : TypeId)
    (hop : o.op = .call { callee := .builtin .append, args := #[s, x], argTypes := #[t, t] })
    (base : Nat) (e : TypeId) (i : TypeInfo) (z : Value) (size bytes : Nat) (ht : P.underlying t = some (.slice e)) (hi : P.info? e = some i) (hz : i.zero = some z)
    (hsize : i.size = size) (hby : i.bytes = bytes) (hzs : z.cells.size = size) (hsz : 0 < size)
    (v : Value) (n : Nat) (xs : List Value) (hs : a.eval s = v) (hown : w.ownsRow base e size v n xs)
    (ad : Addr) (m c : Nat) (news : List Value) (hx : a.eval x = .slice (some ad) m c) (hl : news.length = m * size) (hnews : ∀ j u, news[j]? = some u → w.cell? (ad.add j) = some u) (h1 : ∀ u ∈ news, u.oneCell' = true)
    (h63 : n + m ≤ maxLen) (hbytes : (n + m) * bytes ≤ 140737488355328) (hbase : base ≤ w.heap.size)
    (h : ∀ v' w', w'.ownsRow base e size v' (n + m) (xs ++ news) → w.grownBy w' v.ownBlock → (v'.ownBlock = v.ownBlock ∨ New w.heap.size v') → K (a.put o.dst v') w') :
    if Region.wanted o (yielded ops a.tmps) = true then Oper.wp P o a w K Q else E := by
  have hw : Region.wanted o (yielded ops a.tmps) = true := by simp [Region.wanted, hgd]
  rw [if_pos hw]
  obtain ⟨v', w', hrun, k1, k2, k3⟩ := run_append_mine (P := P) w base t o.type e i z size bytes ht hi hz hsize hby hzs hsz v n xs hown ad m c news hl hnews h1 h63 hbytes hbase
  unfold Oper.wp
  simp [execOp, hop, resolve, invoke, builtin, hs, hx, hrun, Result.andThen]
  exact h _ _ k1 k2 k3

/-- The slice u, where it has elements, does not lie in the block of v. -/
def Far (u v : Value) : Prop := ∀ A n c g, u = .slice (some A) (n + 1) c → v.ownBlock = some g → A.block ≠ g

section
variable {w w' : World} {u v v' : Value} {n : Nat} {xs : List Nat}
theorem Far.nil_ (u : Value) : Far u (.slice none 0 0) := fun _ _ _ _ _ h => by cases h
theorem U32s.lt {A : Addr} {k c : Nat} (h : U32s w (.slice (some A) (k + 1) c) xs) : A.block < w.heap.size := by
  obtain ⟨A', c', e, _, _, h4⟩ := h
  injection e with e1 e2 e3
  obtain ⟨ad, e4, hlt, _⟩ := h4.2 (by omega)
  rw [e4] at e1
  injection e1 with e1
  subst e1
  exact hlt
theorem Far.new (hu : U32s w u xs) (hv : New w.heap.size v) : Far u v := by
  intro A n c g e hg
  subst e
  have h1 := hu.lt
  have h2 := hv g hg
  omega
theorem Far.same (h : Far u v) (e : v'.ownBlock = v.ownBlock) : Far u v' := fun A n c g e1 h1 => h A n c g e1 (by rw [← e]; exact h1)
theorem Far.of_new {B : Nat} (hu : New B u) (hv : ∀ g, v.ownBlock = some g → g < B) : Far u v := by
  intro A n c g e hg
  subst e
  have h1 := hu A.block rfl
  have h2 := hv g hg
  omega
theorem U32s.kept (h : U32s w u xs) (hg : w.grownBy w' v.ownBlock) (hf : Far u v) : U32s w' u xs := by
  obtain ⟨A, c, rfl, h2, h3, h4⟩ := h
  refine ⟨A, c, rfl, h2, h3, h4.1, fun hn => ?_⟩
  obtain ⟨ad, rfl, hlt, hc⟩ := h4.2 hn
  obtain ⟨k, hk⟩ : ∃ k, xs.length = k + 1 := ⟨xs.length - 1, by omega⟩
  refine ⟨ad, rfl, Nat.lt_of_lt_of_le hlt hg.size, fun j x hx => hg.cell (hc j x hx) ?_⟩
  rw [block_of_add]
  intro e
  exact hf ad k c ad.block (by rw [hk]) e.symm rfl
theorem CanV.kept {m : Nat} (h : CanV w u m) (hg : w.grownBy w' v.ownBlock) (hf : Far u v) : CanV w' u m := U32s.kept h hg hf
theorem U32s.setFar (h : U32s w u xs) {p : Addr} (hf : ∀ A n c, u = .slice (some A) (n + 1) c → A.block ≠ p.block) (x : Value) : U32s (w.setCell p x) u xs := by
  obtain ⟨A, c, rfl, h2, h3, h4⟩ := h
  refine ⟨A, c, rfl, h2, h3, h4.1, fun hn => ?_⟩
  obtain ⟨ad, rfl, hlt, hc⟩ := h4.2 hn
  obtain ⟨k, hk⟩ : ∃ k, xs.length = k + 1 := ⟨xs.length - 1, by omega⟩
  refine ⟨ad, rfl, by simpa using hlt, fun j y hy => ?_⟩
  rw [World.cell?_setCell_other _ _ _ _ ?_]
  · exact hc j y hy
  · intro e
    have := hf ad k c (by rw [hk])
    rw [e, block_of_add] at this
    exact this rfl
end

/-- A list of Naturals in a row of the call's own. -/
def OwnN (e : TypeId) (base B : Nat) (w : World) (v : Value) (us : List Value) (ns : List Nat) : Prop :=
  w.ownsRow base e 1 v ns.length us ∧ ∀ (k : Nat) (u : Value) (m : Nat), us[k]? = some u → ns[k]? = some m → CanV w u m ∧ Far u v ∧ New B u

/-- A list of Naturals, to be read. -/
def NatsV (B : Nat) (w : World) (v : Value) (ns : List Nat) : Prop :=
  ∃ A cap us, v = .slice A ns.length cap ∧ ns.length ≤ cap ∧ cap ≤ 9223372036854775807 ∧ Reads w 1 A ns.length us ∧ ∀ (k : Nat) (u : Value) (m : Nat), us[k]? = some u → ns[k]? = some m → CanV w u m ∧ New B u

section
variable {e : TypeId} {base B : Nat} {w w' w1 : World} {v v' u : Value} {us : List Value} {ns : List Nat}
theorem OwnN.nil_ (e : TypeId) (base B : Nat) (w : World) : OwnN e base B w (.slice none 0 0) [] [] := ⟨World.ownsRow_nil _ _ _ _, by simp⟩
theorem OwnN.ext (h : OwnN e base B w v us ns) (hE : Ext w w') : OwnN e base B w' v us ns := by
  refine ⟨h.1.kept (Ext.grown hE) (by cases v.ownBlock <;> simp), fun k u m hu hm => ?_⟩
  obtain ⟨h1, h2, h3⟩ := h.2 k u m hu hm
  exact ⟨h1.below hE, h2, h3⟩
theorem OwnN.push {m : Nat} (h : OwnN e base B w v us ns) (hu : CanV w u m) (hf : Far u v) (hB : New B u) (hown : w'.ownsRow base e 1 v' (ns.length + 1) (us ++ [u])) (hg : w.grownBy w' v.ownBlock) (hw : v'.ownBlock = v.ownBlock ∨ New w.heap.size v') :
    OwnN e base B w' v' (us ++ [u]) (ns ++ [m]) := by
  have far : ∀ {x k}, CanV w x k → Far x v → Far x v' := fun hx hf => by
    rcases hw with hw | hw
    · exact hf.same hw
    · exact Far.new hx hw
  have hl : us.length = ns.length := by have := h.1.1; omega
  refine ⟨by simpa using hown, fun k x y hx hy => ?_⟩
  rcases Nat.lt_or_ge k ns.length with hk | hk
  · rw [List.getElem?_append_left (by omega)] at hx hy
    obtain ⟨h1, h2, h3⟩ := h.2 k x y hx hy
    exact ⟨h1.kept hg h2, far h1 h2, h3⟩
  · rw [List.getElem?_append_right (by omega)] at hx hy
    rw [hl] at hx
    have hk0 : k - ns.length = 0 := by
      rcases Nat.eq_zero_or_pos (k - ns.length) with h | h
      · exact h
      · rw [List.getElem?_eq_none (by simp; omega)] at hy; cases hy
    rw [hk0] at hx hy
    simp at hx hy
    subst hx hy
    exact ⟨hu.kept hg hf, far hu hf, hB⟩
theorem OwnN.nats (h : OwnN e base B w v us ns) : NatsV B w v ns := by
  rcases h.1.2 with ⟨rfl, h0⟩ | ⟨g, cap, cur, rfl, _, _, hc, hm, _, _⟩
  · have : ns = [] := List.eq_nil_of_length_eq_zero h0
    subst this
    exact ⟨none, 0, [], rfl, Nat.le_refl _, by omega, Reads.nil_, by simp⟩
  · exact ⟨_, cap, us, rfl, hc, hm, Reads.of_own h.1, fun k u m hu hm => ⟨(h.2 k u m hu hm).1, (h.2 k u m hu hm).2.2⟩⟩
theorem NatsV.ext (h : NatsV B w v ns) (hE : Ext w w') : NatsV B w' v ns := by
  obtain ⟨A, cap, us, h1, h2, h3, h4, h5⟩ := h
  exact ⟨A, cap, us, h1, h2, h3, h4.below hE, fun k u m hu hm => ⟨(h5 k u m hu hm).1.below hE, (h5 k u m hu hm).2⟩⟩
theorem NatsV.at_ {A : Option Addr} {n c k m : Nat} (h : NatsV B w (.slice A n c) ns) (hk : ns[k]? = some m) :
    ∃ ad A' k' c', A = some ad ∧ ad.block < w.heap.size ∧ w.cell? (ad.add k) = some (.slice A' k' c') ∧ CanV w (.slice A' k' c') m ∧ New B (.slice A' k' c') := by
  obtain ⟨A0, cap, us, e, h2, h3, h4, h5⟩ := h
  injection e with e1 e2 e3
  subst e1
  have hlt : k < ns.length := (List.getElem?_eq_some_iff.1 hk).1
  obtain ⟨ad, u, rfl, hb, hu, hc⟩ := h4.at_ (k := k) hlt
  obtain ⟨hcan, hnew⟩ := h5 k u m hu hk
  obtain ⟨A', k', c', rfl⟩ := hcan.form
  exact ⟨ad, A', k', c', rfl, hb, hc, hcan, hnew⟩
theorem NatsV.form (h : NatsV B w v ns) : ∃ A c, v = .slice A ns.length c ∧ ns.length ≤ c ∧ c ≤ 9223372036854775807 := by
  obtain ⟨A, cap, us, h1, h2, h3, _⟩ := h
  exact ⟨A, cap, h1, h2, h3⟩
theorem NatsV.set {p : Addr} (h : NatsV B w v ns) (hn : New B v) (hp : p.block < B) (x : Value) : NatsV B (w.setCell p x) v ns := by
  obtain ⟨A, cap, us, rfl, h2, h3, h4, h5⟩ := h
  refine ⟨A, cap, us, rfl, h2, h3, ⟨h4.1, fun hk => ?_⟩, fun k u m hu hm => ⟨U32s.setFar (h5 k u m hu hm).1 (fun A' n c e => ?_) x, (h5 k u m hu hm).2⟩⟩
  · obtain ⟨ad, rfl, hlt, hc⟩ := h4.2 hk
    refine ⟨ad, rfl, by simpa using hlt, fun j y hy => ?_⟩
    rw [World.cell?_setCell_other _ _ _ _ ?_]
    · exact hc j y hy
    · intro e
      have h6 := hn ad.block rfl
      have h7 := congrArg Addr.block e
      rw [block_of_add] at h7
      omega
  · subst e
    have := (h5 k _ m hu hm).2 A'.block rfl
    omega
end

end Go.Proofs.YtkjcbfaimonaoaaDoor
