/- A region that draws its order and ends in operations (a store, say) before which all others have come up: what holds of the world is asked behind each operation but those last ones. No program is named here. -/
import Derived.Deep.RegionHeld3
import Derived.Deep.DrawnRows
import Derived.Test.YtbplkienkhinmaaGreatDoorNatural
set_option linter.unusedVariables false
set_option linter.unusedSimpArgs false
namespace Go.Proofs.YtbplkienkhinmaaGreatDoor
open Go Go.RowKit

/-- What has come up has behind it all that it waits for. -/
def closedB (md : Region.Mode) (ops : Array Oper) (listed : Array Bool) : Bool :=
  (List.range ops.size).all fun k => !listed.getD k false || (match ops[k]? with | some o => o.after.all (fun e => !Region.binds md e || listed.getD e.on false) | none => true)
/-- What operation k waits for, marked besides. -/
def markDeps (md : Region.Mode) (ops : Array Oper) (m : Array Bool) (k : Nat) : Array Bool :=
  match ops[k]? with | some o => o.after.toList.foldl (fun m e => if Region.binds md e then m.setIfInBounds e.on true else m) m | none => m
/-- All that operation l waits for, one behind the other. -/
def marks (md : Region.Mode) (ops : Array Oper) (l : Nat) : Array Bool :=
  (List.range ops.size).reverse.foldl (fun m k => if m.getD k false then markDeps md ops m k else m) (markDeps md ops (Array.replicate ops.size false) l)
/-- Each operation of Ls waits for all that are not of Ls. -/
def sinkB (md : Region.Mode) (ops : Array Oper) (Ls : List Nat) : Bool :=
  Ls.all fun l => (fun m : Array Bool => (List.range ops.size).all fun j => Ls.contains j || m.getD j false) (marks md ops l)

section
variable {P : Program} {ops : Array Oper} {Q : Exit → Act → World → Prop} {md : Region.Mode} {S : World → Prop} {Ls : List Nat}

theorem closedB_at {listed : Array Bool} (h : closedB md ops listed = true) {k : Nat} {o : Oper} (ho : ops[k]? = some o) (hk : listed.getD k false = true) {e : Edge} (he : e ∈ o.after) (hb : Region.binds md e = true) : listed.getD e.on false = true := by
  unfold closedB at h
  rw [List.all_eq_true] at h
  have h1 := h k (List.mem_range.2 (Array.getElem?_eq_some_iff.1 ho).1)
  rw [hk, ho] at h1
  simp only [Bool.not_true, Bool.false_or, Array.all_eq_true_iff_forall_mem] at h1
  have h2 := h1 e he
  rw [hb] at h2
  simpa using h2
theorem getD_set_true (listed : Array Bool) (i k : Nat) (h : listed.getD k false = true) : (listed.setIfInBounds i true).getD k false = true := by
  by_cases hik : i = k
  · subst hik
    have hlt : i < listed.size := by
      rcases Nat.lt_or_ge i listed.size with h' | h'
      · exact h'
      · simp [Array.getD, Nat.not_lt.2 h'] at h
    simp [Array.getD, hlt]
  · rw [Go.getD_set_ne false hik]; exact h
theorem closedB_step {listed : Array Bool} (h : closedB md ops listed = true) {i : Nat} (hi : i ∈ Region.ready md ops listed) : closedB md ops (listed.setIfInBounds i true) = true := by
  unfold closedB
  rw [List.all_eq_true]
  intro k hk
  cases ho : ops[k]? with
  | none => simp
  | some o =>
    simp only [Bool.or_eq_true, Bool.not_eq_true']
    by_cases hl : (listed.setIfInBounds i true).getD k false = true
    · refine .inr ?_
      rw [Array.all_eq_true_iff_forall_mem]
      intro e he
      by_cases hb : Region.binds md e = true
      · simp only [hb, Bool.not_true, Bool.false_or]
        refine getD_set_true _ _ _ ?_
        by_cases hik : i = k
        · subst hik
          obtain ⟨_, oi, hoi, hall⟩ := mem_ready.1 hi
          rw [ho] at hoi
          cases hoi
          exact hall e he hb
        · rw [Go.getD_set_ne false hik] at hl
          exact closedB_at h ho hl he hb
      · simp [hb]
    · exact .inl (by simpa using hl)
/-- Every mark has come up. -/
def Within (m listed : Array Bool) : Prop := ∀ j, m.getD j false = true → listed.getD j false = true
theorem Within.set {m listed : Array Bool} (h : Within m listed) {i : Nat} (hi : listed.getD i false = true) : Within (m.setIfInBounds i true) listed := fun j hj => by
  by_cases hij : i = j
  · subst hij; exact hi
  · rw [Go.getD_set_ne false hij] at hj; exact h j hj
theorem Within.deps {listed : Array Bool} : ∀ (l : List Edge) (m : Array Bool), Within m listed → (∀ e ∈ l, Region.binds md e = true → listed.getD e.on false = true) → Within (l.foldl (fun m e => if Region.binds md e then m.setIfInBounds e.on true else m) m) listed
  | [], m, h, _ => h
  | e :: l, m, h, hl => by
    rw [List.foldl_cons]
    refine Within.deps l _ ?_ fun e' he' => hl e' (List.mem_cons_of_mem _ he')
    by_cases hb : Region.binds md e = true
    · rw [if_pos hb]; exact h.set (hl e (List.mem_cons_self ..) hb)
    · rw [if_neg hb]; exact h
theorem Within.mark {listed m : Array Bool} {k : Nat} (h : Within m listed) (hk : ∀ o, ops[k]? = some o → ∀ e ∈ o.after, Region.binds md e = true → listed.getD e.on false = true) : Within (markDeps md ops m k) listed := by
  unfold markDeps
  cases ho : ops[k]? with
  | none => exact h
  | some o => exact Within.deps _ _ h fun e he hb => hk o ho e (by simpa using he) hb
theorem Within.marks {listed : Array Bool} (hc : closedB md ops listed = true) : ∀ (l : List Nat) (m : Array Bool), Within m listed → Within (l.foldl (fun m k => if m.getD k false then markDeps md ops m k else m) m) listed
  | [], m, h => h
  | k :: l, m, h => by
    rw [List.foldl_cons]
    refine Within.marks hc l _ ?_
    by_cases hk : m.getD k false = true
    · rw [if_pos hk]; exact h.mark fun o ho e he hb => closedB_at hc ho (h k hk) he hb
    · rw [if_neg hk]; exact h
theorem sinkB_all {listed : Array Bool} (hs : sinkB md ops Ls = true) (hc : closedB md ops listed = true) {l : Nat} (hl : Ls.contains l = true) (hL : l ∈ Region.ready md ops listed) {j : Nat} (hj : j < ops.size) (hjL : Ls.contains j = false) : listed.getD j false = true := by
  unfold sinkB at hs
  rw [List.all_eq_true] at hs
  have h1 := hs l (by simpa using hl)
  rw [List.all_eq_true] at h1
  have h2 := h1 j (List.mem_range.2 hj)
  rw [hjL, Bool.false_or] at h2
  obtain ⟨_, o, ho, hall⟩ := mem_ready.1 hL
  refine Within.marks hc _ _ (Within.mark (fun j hj => ?_) fun o' ho' e he hb => ?_) j h2
  · rw [Array.getD] at hj
    split at hj
    · simp at hj
    · cases hj
  · rw [ho] at ho'
    cases ho'
    exact hall e he hb

/-- Whatever order is picked from here on, and S holds behind every operation that is not of Ls. -/
def wpAnyG (P : Program) (md : Region.Mode) (ops : Array Oper) (Q : Exit → Act → World → Prop) (S : World → Prop) (Ls : List Nat) : Nat → Array Bool → Act → World → Prop
  | 0, listed, a, w => Region.ready md ops listed = [] ∧ Q .normal a w
  | fuel + 1, listed, a, w =>
    (Region.ready md ops listed = [] → Q .normal a w) ∧
    ∀ i ∈ Region.ready md ops listed, wpOp P ops Q i (fun a' w' => (Ls.contains i = false → S w') ∧ wpAnyG P md ops Q S Ls fuel (listed.setIfInBounds i true) a' w') a w
theorem wpAny_of_G : ∀ (fuel : Nat) (listed : Array Bool) (a : Act) (w : World), wpAnyG P md ops Q S Ls fuel listed a w → wpAny P md ops Q fuel listed a w
  | 0, _, _, _, h => h
  | fuel + 1, _, _, _, h => ⟨h.1, fun i hi => wpOp_mono (fun a' w' h' => wpAny_of_G fuel _ a' w' h'.2) (h.2 i hi)⟩

theorem wpAnyG_first {i : Nat} {oi : Oper} {v : Value} (hi : ops[i]? = some oi) (hsel : ∀ (j : Nat) (o : Oper) cs b, ops[j]? = some o → o.op ≠ .select cs b)
    (hQ : ∀ c a w, Q (.panic c) (a.put oi.dst v) w → Q (.panic c) a w) (hs : sinkB md ops Ls = true) (hiL : Ls.contains i = false) :
    ∀ (fuel : Nat) (listed : Array Bool) (a : Act) (w : World),
      (∀ j oj, ops[j]? = some oj → j ≠ i → listed.getD j true = false → (∀ e ∈ oj.after, Region.binds md e = true → e.on ≠ i) → oi.apart ops oj = true) →
      closedB md ops listed = true → i ∈ Region.ready md ops listed → YieldsIf P ops S oi v a → S w →
      wpAnyG P md ops Q S Ls fuel (listed.setIfInBounds i true) (a.put oi.dst v) w → wpAnyG P md ops Q S Ls (fuel + 1) listed a w := by
  intro fuel
  induction fuel with
  | zero =>
    intro listed a w _ hcl hr hy hS H
    refine ⟨fun h => (by rw [h] at hr; cases hr), fun j hj => ?_⟩
    by_cases hji : j = i
    · subst hji; exact hy.wpOp hi hS ⟨fun _ => hS, H⟩
    · have := ready_mono hj hji
      rw [H.1] at this
      cases this
  | succ fuel ih =>
    intro listed a w hfree hcl hr hy hS H
    refine ⟨fun h => (by rw [h] at hr; cases hr), fun j hj => ?_⟩
    by_cases hji : j = i
    · subst hji; exact hy.wpOp hi hS ⟨fun _ => hS, H⟩
    · have hjL : Ls.contains j = false := by
        cases hc : Ls.contains j with
        | false => rfl
        | true =>
          have h0 := sinkB_all hs hcl hc hj (Array.getElem?_eq_some_iff.1 hi).1 hiL
          have h1 := (mem_ready.1 hr).1
          rcases Nat.lt_or_ge i listed.size with h' | h'
          · simp [Array.getD, h'] at h0 h1; rw [h0] at h1; cases h1
          · simp [Array.getD, Nat.not_lt.2 h'] at h0
      have h1 := H.2 j (ready_mono hj hji)
      obtain ⟨hjun, oj, hoj, hall⟩ := mem_ready.1 hj
      have hnot : ∀ e ∈ oj.after, Region.binds md e = true → e.on ≠ i := fun e he hb heq => by
        have h1 := hall e he hb
        have h0 := (mem_ready.1 hr).1
        rw [heq] at h1
        rcases Nat.lt_or_ge i listed.size with h' | h'
        · simp [h'] at h0 h1; rw [h0] at h1; cases h1
        · simp [Array.getElem?_eq_none h'] at h1
      have h2 := wpOp_putIf hoj (hfree j oj hoj hji hjun hnot) (fun cs b => hsel i oi cs b hi) (fun cs b => hsel j oj cs b hoj) hQ hy h1
      have hfree' : ∀ k ok, ops[k]? = some ok → k ≠ i → (listed.setIfInBounds j true).getD k true = false →
          (∀ e ∈ ok.after, Region.binds md e = true → e.on ≠ i) → oi.apart ops ok = true := fun k ok hk hki hun hno => by
        refine hfree k ok hk hki ?_ hno
        by_cases hjk : j = k
        · subst hjk; exact hjun
        · rw [Go.getD_set_ne true hjk] at hun; exact hun
      refine wpOp_mono (fun a' w' h3 => ⟨h3.2.1, ih (listed.setIfInBounds j true) a' w' hfree' (closedB_step hcl hj) (ready_mono hr (Ne.symm hji)) h3.1 (h3.2.1 hjL) ?_⟩) h2
      rw [Array.setIfInBounds_comm _ _ hji]
      exact h3.2.2

/-- Take number i first. -/
theorem wpAnyG_take (i : Nat) {oi : Oper} {v : Value} {fuel : Nat} {listed : Array Bool} {a : Act} {w : World} (hi : ops[i]? = some oi)
    (hs : Region.noSelect ops = true) (hf : Region.free md ops listed i = true) (hr : (Region.ready md ops listed).contains i = true) (hsk : sinkB md ops Ls = true) (hiL : Ls.contains i = false) (hcl : closedB md ops listed = true)
    (hQ : ∀ c a w, Q (.panic c) (a.put oi.dst v) w → Q (.panic c) a w) (hw : Region.wanted oi (yielded ops a.tmps) = true) (hy : ∀ w, S w → (execOp a.eval oi).run P w = .ok (.value v) w) (hS : S w)
    (h : wpAnyG P md ops Q S Ls fuel (listed.setIfInBounds i true) (a.put oi.dst v) w) : wpAnyG P md ops Q S Ls (fuel + 1) listed a w :=
  wpAnyG_first hi (Region.noSelect_spec hs) hQ hsk hiL fuel listed a w (Region.free_spec hi hf) hcl (by simpa using hr) (.inl ⟨hw, hy⟩) hS h
/-- One alone may come up. -/
theorem wpAnyG_one (i : Nat) {o : Oper} {fuel : Nat} {listed : Array Bool} {a : Act} {w : World} (hr : Region.ready md ops listed = [i]) (ho : ops[i]? = some o) (hw : Region.wanted o (yielded ops a.tmps) = true)
    (h : ∀ K' : Act → World → Prop, Shut (∀ a w, (Ls.contains i = false → S w) → wpAnyG P md ops Q S Ls fuel (listed.setIfInBounds i true) a w → K' a w) → Oper.wp P o a w K' Q) : wpAnyG P md ops Q S Ls (fuel + 1) listed a w := by
  refine ⟨fun h0 => absurd (hr ▸ h0) (by simp), ?_⟩
  rw [hr]
  intro j hj
  obtain rfl : j = i := by simpa using hj
  exact wpOp_step ho (fun K' hK => by rw [if_pos hw]; exact h K' (fun a w hS hW => hK a w ⟨hS, hW⟩))
/-- append to a row of the call's own, at a step. -/
theorem wp_append_mine {P : Program} {Q : Exit → Act → World → Prop} (w : World) {o : Oper} {a : Act} {K : Act → World → Prop} (s x : Operand) (t : TypeId)
    (hop : o.op = .call { callee := .builtin .append, args := #[s, x], argTypes := #[t, t] })
    (base : Nat) (e : TypeId) (i : TypeInfo) (z : Value) (size bytes : Nat) (ht : P.underlying t = some (.slice e)) (hi : P.info? e = some i) (hz : i.zero = some z)
    (hsize : i.size = size) (hby : i.bytes = bytes) (hzs : z.cells.size = size) (hsz : 0 < size)
    (v : Value) (n : Nat) (xs : List Value) (hs : a.eval s = v) (hown : w.ownsRow base e size v n xs)
    (ad : Addr) (m c : Nat) (news : List Value) (hx : a.eval x = .slice (some ad) m c) (hl : news.length = m * size) (hnews : ∀ j u, news[j]? = some u → w.cell? (ad.add j) = some u) (h1 : ∀ u ∈ news, u.oneCell' = true)
    (h63 : n + m ≤ maxLen) (hbytes : (n + m) * bytes ≤ 140737488355328) (hbase : base ≤ w.heap.size)
    (h : ∀ v' w', w'.ownsRow base e size v' (n + m) (xs ++ news) → w.grownBy w' v.ownBlock → (v'.ownBlock = v.ownBlock ∨ New w.heap.size v') → K (a.put o.dst v') w') :
    Oper.wp P o a w K Q := by
  obtain ⟨v', w', hrun, k1, k2, k3⟩ := run_append_mine (P := P) w base t o.type e i z size bytes ht hi hz hsize hby hzs hsz v n xs hown ad m c news hl hnews h1 h63 hbytes hbase
  unfold Oper.wp
  simp [execOp, hop, resolve, invoke, builtin, hs, hx, hrun, Result.andThen]
  exact h _ _ k1 k2 k3
theorem wpAnyG_done {listed : Array Bool} {a : Act} {w : World} (hr : Region.ready md ops listed = []) (h : Q .normal a w) :
    ∀ fuel, wpAnyG P md ops Q S Ls fuel listed a w
  | 0 => ⟨hr, h⟩
  | _ + 1 => ⟨fun _ => h, by rw [hr]; simp⟩
theorem wp_region_G (S : World → Prop) (Ls : List Nat) {id : Nat} {a : Act} {w : World} (hm : P.follows .mixedOrders = true)
    (h : wpAnyG P .any ops Q S Ls ops.size (Array.replicate ops.size false) a w.drew) : (Code.region id ops true).wp P Q a w :=
  wp_region_any hm (wpAny_of_G _ _ _ _ h)
end

theorem wpAnyG_two {P : Program} {ops : Array Oper} {Q : Exit → Act → World → Prop} {md : Region.Mode} {S : World → Prop} {Ls : List Nat} (i j : Nat) {oi oj : Oper} {fuel : Nat} {listed : Array Bool} {a : Act} {w : World}
    (hr : Region.ready md ops listed = [i, j]) (hi : ops[i]? = some oi) (hj : ops[j]? = some oj) (hwi : Region.wanted oi (yielded ops a.tmps) = true) (hwj : Region.wanted oj (yielded ops a.tmps) = true)
    (h1 : ∀ K' : Act → World → Prop, Shut (∀ a w, (Ls.contains i = false → S w) → wpAnyG P md ops Q S Ls fuel (listed.setIfInBounds i true) a w → K' a w) → Oper.wp P oi a w K' Q)
    (h2 : ∀ K' : Act → World → Prop, Shut (∀ a w, (Ls.contains j = false → S w) → wpAnyG P md ops Q S Ls fuel (listed.setIfInBounds j true) a w → K' a w) → Oper.wp P oj a w K' Q) : wpAnyG P md ops Q S Ls (fuel + 1) listed a w := by
  refine ⟨fun h0 => absurd (hr ▸ h0) (by simp), ?_⟩
  rw [hr]
  intro k hk
  rcases List.mem_cons.1 hk with rfl | hk
  · exact wpOp_step hi (fun K' hK => by rw [if_pos hwi]; exact h1 K' (fun a w hS hW => hK a w ⟨hS, hW⟩))
  · obtain rfl : k = j := by simpa using hk
    exact wpOp_step hj (fun K' hK => by rw [if_pos hwj]; exact h2 K' (fun a w hS hW => hK a w ⟨hS, hW⟩))
/-- What is not wanted passes by. -/
theorem wpAnyG_skip {P : Program} {ops : Array Oper} {Q : Exit → Act → World → Prop} {md : Region.Mode} {S : World → Prop} {Ls : List Nat} (i : Nat) {oi : Oper} {fuel : Nat} {listed : Array Bool} {a : Act} {w : World} (hi : ops[i]? = some oi)
    (hs : Region.noSelect ops = true) (hf : Region.free md ops listed i = true) (hr : (Region.ready md ops listed).contains i = true) (hsk : sinkB md ops Ls = true) (hiL : Ls.contains i = false) (hcl : closedB md ops listed = true)
    (hQ : ∀ c a w, Q (.panic c) (a.put oi.dst undef) w → Q (.panic c) a w) (hw : Region.wanted oi (yielded ops a.tmps) = false) (hS : S w)
    (h : wpAnyG P md ops Q S Ls fuel (listed.setIfInBounds i true) (a.put oi.dst undef) w) : wpAnyG P md ops Q S Ls (fuel + 1) listed a w :=
  wpAnyG_first hi (Region.noSelect_spec hs) hQ hsk hiL fuel listed a w (Region.free_spec hi hf) hcl (by simpa using hr) (.inr ⟨hw, rfl⟩) hS h

end Go.Proofs.YtbplkienkhinmaaGreatDoor
