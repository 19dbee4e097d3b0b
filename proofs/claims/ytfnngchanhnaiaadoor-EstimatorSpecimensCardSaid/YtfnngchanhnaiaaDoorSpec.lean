/- Lists of specimens; a map to bool as a set of integers. No function is named here. -/
import Derived.Test.YtfnngchanhnaiaaDoorKeep
import Derived.Maps.OwnOps
import Derived.Maps.Views
import Derived.BigFrame
set_option linter.unusedVariables false
set_option linter.unusedSimpArgs false
set_option maxRecDepth 100000
namespace Go.Proofs.YtfnngchanhnaiaaDoor
open Go.RowKit Num

/-- The fields of a specimen. -/
structure Sp where
  id : Int
  obv : Int
  rev : Int
  os : Int
  rs : Int
  ax : Int
  wt : Int
def Sp.cells (s : Sp) : List Value := [.int .i64 s.id, .int .i64 s.obv, .int .i64 s.rev, .int .i64 s.os, .int .i64 s.rs, .int .i64 s.ax, .int .i64 s.wt]
def scells (l : List Sp) : List Value := l.flatMap Sp.cells
theorem scells_length : ∀ (l : List Sp), (scells l).length = l.length * 7
  | [] => rfl
  | s :: l => by
    show (s.cells ++ scells l).length = _
    rw [List.length_append, scells_length l]
    show 7 + l.length * 7 = (l.length + 1) * 7
    omega
theorem scells_at : ∀ {l : List Sp} {k : Nat} {s : Sp}, l[k]? = some s → ∀ j, j < 7 → (scells l)[k * 7 + j]? = s.cells[j]?
  | [], k, s, h => by simp at h
  | t :: l, 0, s, h => fun j hj => by
    obtain rfl : t = s := by simpa using h
    show (t.cells ++ scells l)[0 * 7 + j]? = _
    rw [Nat.zero_mul, Nat.zero_add, List.getElem?_append_left (by show j < 7; exact hj)]
  | t :: l, k + 1, s, h => fun j hj => by
    have ih := scells_at (l := l) (k := k) (s := s) (by simpa using h) j hj
    show (t.cells ++ scells l)[(k + 1) * 7 + j]? = _
    rw [List.getElem?_append_right (by show 7 ≤ _; omega)]
    show (scells l)[(k + 1) * 7 + j - 7]? = _
    rw [show (k + 1) * 7 + j - 7 = k * 7 + j from by omega]
    exact ih
/-- A list of specimens, to be read. -/
def SpecsV (w : World) (v : Value) (l : List Sp) : Prop := ∃ A c, v = .slice A l.length c ∧ l.length ≤ c ∧ c ≤ 9223372036854775807 ∧ Reads w 7 A l.length (scells l)
theorem SpecsV.below {w w' : World} {v : Value} {l : List Sp} (h : SpecsV w v l) (hb : Ext w w') : SpecsV w' v l := by
  obtain ⟨A, c, h1, h2, h3, h4⟩ := h
  exact ⟨A, c, h1, h2, h3, h4.below hb⟩
theorem cell_spotP {w : World} {p : Addr} {u : Value} (h : w.cell? p = some u) : p.spot = none := by
  unfold World.cell? at h
  split at h
  · split at h
    · cases h
    · simp_all
  · cases h
theorem SpecsV.pl {w : World} {A : Option Addr} {n c k : Nat} {l : List Sp} {s : Sp} (h : SpecsV w (.slice A n c) l) (hk : l[k]? = some s) :
    ∃ b o, A = some ⟨b, o, none⟩ ∧ b < w.heap.size ∧ w.cell? ⟨b, o + k * 7, none⟩ = some (.int .i64 s.id) ∧ w.cell? ⟨b, o + k * 7 + 1, none⟩ = some (.int .i64 s.obv) ∧ w.cell? ⟨b, o + k * 7 + 2, none⟩ = some (.int .i64 s.rev) ∧
      w.cell? ⟨b, o + k * 7 + 3, none⟩ = some (.int .i64 s.os) ∧ w.cell? ⟨b, o + k * 7 + 4, none⟩ = some (.int .i64 s.rs) ∧ w.cell? ⟨b, o + k * 7 + 5, none⟩ = some (.int .i64 s.ax) ∧ w.cell? ⟨b, o + k * 7 + 6, none⟩ = some (.int .i64 s.wt) := by
  obtain ⟨A0, cap, e, h2, h3, h4⟩ := h
  injection e with e1 e2 e3
  subst e1
  have hlt : k < l.length := (List.getElem?_eq_some_iff.1 hk).1
  obtain ⟨ad, rfl, hb, hc⟩ := h4.2 (by omega)
  obtain ⟨s0, hs0⟩ : ∃ s0, l[0]? = some s0 := ⟨_, List.getElem?_eq_getElem (by omega)⟩
  have gz := hc 0 _ (scells_at hs0 0 (by omega))
  obtain ⟨bb, o, sp⟩ := ad
  have hsp : sp = none := by have := Go.Proofs.YtfnngchanhnaiaaDoor.cell_spotP gz; simpa [Addr.add] using this
  subst hsp
  have ha : ∀ j, (⟨bb, o, none⟩ : Addr).add j = ⟨bb, o + j, none⟩ := fun j => by
    unfold Addr.add
    by_cases hj : j = 0 <;> simp [hj]
  have g : ∀ j u, j < 7 → s.cells[j]? = some u → w.cell? ⟨bb, o + k * 7 + j, none⟩ = some u := fun j u hj hu => by
    have h := hc (k * 7 + j) u ((scells_at hk j hj).trans hu)
    rw [ha, ← Nat.add_assoc] at h
    exact h
  exact ⟨bb, o, rfl, hb, g 0 _ (by omega) rfl, g 1 _ (by omega) rfl, g 2 _ (by omega) rfl, g 3 _ (by omega) rfl, g 4 _ (by omega) rfl, g 5 _ (by omega) rfl, g 6 _ (by omega) rfl⟩

/-- A map that holds true at each of some integers. -/
def SetI (D : DataW Unit) (ids : List Int) : Prop := Maps.IsMap D ∧ ∀ x : Int, D.atKey (.int .i64 x) (.lit (.bool false)) = .lit (.bool (decide (x ∈ ids)))
theorem SetI.nil : SetI (.map []) [] := ⟨Maps.isMap_empty, fun x => rfl⟩
theorem SetI.put {D : DataW Unit} {ids : List Int} (h : SetI D ids) (x : Int) : SetI (D.put (.int .i64 x) (.lit (.bool true))) (ids ++ [x]) := by
  refine ⟨h.1.put _ _, fun y => ?_⟩
  by_cases hy : y = x
  · subst hy
    rw [Maps.atKey_put_same (k := Lit.int .i64 y) h.1 (show WideAt.IsKeyLit (Lit.int .i64 y) from trivial)]
    rw [show decide (y ∈ ids ++ [y]) = true from decide_eq_true (by simp)]
  · rw [Maps.atKey_put_other (fun e => hy (by injection e)), h.2 y]
    have : (y ∈ ids ++ [x]) ↔ y ∈ ids := by simp [hy]
    simp only [this]
theorem plainElem_bool_inv {H : Type} {P : Program} {e : TypeId} (he : P.underlying e = some .bool) {v : Value} {z : DataW H × List MemPlace} (h : plainElem P e v = some z) : ∃ x, v = .bool x ∧ z = (.lit (.bool x), []) := by
  unfold plainElem at h
  rw [he] at h
  cases v <;> simp at h
  subst h
  exact ⟨_, rfl, rfl⟩
theorem wpList_lookup_own_bool {H : Type} {P : Program} (w : World) {ops : Array Oper} {rest : List Oper} {o : Oper} {a : Act} {Q : Exit → Act → World → Prop}
    (hw : Region.wanted o (yielded ops a.tmps) = true) (m x : Operand) (t : TypeId) (hop : o.op = Op.lookup t m x false)
    (k e : TypeId) (K : Maps.Keyed P k) (ht : P.underlying t = some (.map k e)) (he : P.underlying e = some .bool) (hz : (zeroValue e).run P w = .ok (.bool false) w) (b n : Nat) (D : DataW H)
    (hm : a.eval m = .map (some b)) (hown : w.ownsMap P k (plainElem P e) b n D) (key : Value) (kl : Lit) (hx : a.eval x = key) (hkey : keyOf P k key = some kl)
    (hK : ∀ c : Bool, D.atKey kl (.lit (.bool false)) = .lit (.bool c) → wpList P ops Q rest (a.put o.dst (.bool c)) w) :
    wpList P ops Q (o :: rest) a w := by
  refine BigFrame.wpList_want hw fun K' hK' => ?_
  obtain ⟨v, ps, hrun, hv⟩ := hown.lookup K ht hz (plainElem_bool he false) hkey
  obtain ⟨c, rfl, hc⟩ := plainElem_bool_inv he hv
  unfold Oper.wp
  simp [execOp, hop, hm, hx, hrun, Result.andThen]
  exact hK' _ _ (hK c (congrArg Prod.fst hc))

/-! ## plain law -/
def Sp.Ok (s : Sp) : Prop := (1 ≤ s.obv ∧ s.obv ≤ 999) ∧ (1 ≤ s.rev ∧ s.rev ≤ 999) ∧ (1 ≤ s.os ∧ s.os ≤ 9) ∧ (1 ≤ s.rs ∧ s.rs ≤ 9) ∧ (1 ≤ s.id ∧ s.id ≤ 9999) ∧ (0 ≤ s.ax ∧ s.ax ≤ 11) ∧ (1 ≤ s.wt ∧ s.wt ≤ 200000)
def AllOk (l : List Sp) : Prop := ∀ s ∈ l, s.Ok
def ids (l : List Sp) : List Int := l.map Sp.id
/-- The die of a side. -/
def dieOf (side : Int) (s : Sp) : Int := if side = 0 then s.obv else s.rev
def dies (side : Int) (l : List Sp) : List Int := l.map (dieOf side)
def cntD (ds : List Int) (n : Nat) : Int := (ds.count (n : Int) : Int)
/-- The numbers of specimens of the dies below N. -/
def ofN (ds : List Int) (N : Nat) : List Int := ((List.range N).map (cntD ds)).filter (fun x => !decide (x = 0))
theorem ofN_zero (ds : List Int) : ofN ds 0 = [] := rfl
theorem ofN_succ (ds : List Int) (N : Nat) : ofN ds (N + 1) = ofN ds N ++ (if cntD ds N = 0 then [] else [cntD ds N]) := by
  unfold ofN
  rw [List.range_succ, List.map_append, List.filter_append]
  congr 1
  by_cases h : cntD ds N = 0
  · rw [if_pos h]; simp [h]
  · rw [if_neg h]; simp [h]
theorem cntD_nonneg (ds : List Int) (n : Nat) : 0 ≤ cntD ds n := by unfold cntD; omega
theorem sum_filter0 : ∀ (xs : List Int), (xs.filter (fun x => !decide (x = 0))).sum = xs.sum
  | [] => rfl
  | x :: xs => by
    rw [List.filter_cons]
    by_cases h : x = 0
    · subst h; simp [sum_filter0 xs]
    · simp [h, sum_filter0 xs]
theorem sum_ind (d : Int) : ∀ N : Nat, ((List.range N).map (fun n : Nat => if d = (n : Int) then (1 : Int) else 0)).sum = if 0 ≤ d ∧ d < N then 1 else 0
  | 0 => by
    rw [if_neg (by omega)]
    rfl
  | N + 1 => by
    rw [List.range_succ, List.map_append, List.sum_append, sum_ind d N]
    simp only [List.map_cons, List.map_nil, List.sum_cons, List.sum_nil]
    by_cases h : d = (N : Int)
    · rw [if_pos h, if_neg (by omega), if_pos (by omega)]; rfl
    · rw [if_neg h]
      by_cases h2 : 0 ≤ d ∧ d < (N : Int)
      · rw [if_pos h2, if_pos (by omega)]; rfl
      · rw [if_neg h2, if_neg (by omega)]; rfl
theorem sum_add (f g : Nat → Int) : ∀ l : List Nat, (l.map (fun n => f n + g n)).sum = (l.map f).sum + (l.map g).sum
  | [] => rfl
  | x :: l => by
    simp only [List.map_cons, List.sum_cons, sum_add f g l]
    omega
theorem sum_cnt (N : Nat) : ∀ ds : List Int, (∀ d ∈ ds, 0 ≤ d ∧ d < N) → ((List.range N).map (cntD ds)).sum = ds.length
  | [], _ => by
    have : ∀ l : List Nat, (l.map (cntD [])).sum = 0 := by
      intro l
      induction l with
      | nil => rfl
      | cons x l ih => rw [List.map_cons, List.sum_cons, ih]; rfl
    exact this _
  | d :: ds, h => by
    have e : (List.range N).map (cntD (d :: ds)) = (List.range N).map (fun n => cntD ds n + if d = (n : Int) then 1 else 0) := by
      refine List.map_congr_left fun n _ => ?_
      unfold cntD
      rw [List.count_cons]
      by_cases hd : d = (n : Int)
      · simp [hd]
      · simp [hd]
    rw [e, sum_add, sum_cnt N ds fun x hx => h x (List.mem_cons_of_mem _ hx), sum_ind, if_pos (h d List.mem_cons_self), List.length_cons]
    omega
theorem sum_ofN {ds : List Int} {N : Nat} (h : ∀ d ∈ ds, 0 ≤ d ∧ d < N) : (ofN ds N).sum = ds.length := by
  unfold ofN
  rw [sum_filter0, sum_cnt N ds h]
/-- How many numbers below N are among ds. -/
def ndN (ds : List Int) : Nat → Nat
  | 0 => 0
  | N + 1 => ndN ds N + if (N : Int) ∈ ds then 1 else 0
theorem len_ofN (ds : List Int) : ∀ N, (ofN ds N).length = ndN ds N
  | 0 => rfl
  | N + 1 => by
    rw [ofN_succ, List.length_append, len_ofN ds N]
    show _ = ndN ds N + _
    congr 1
    by_cases h : (N : Int) ∈ ds
    · rw [if_pos h, if_neg (by unfold cntD; have := List.count_pos_iff.2 h; omega)]
      try rfl
    · rw [if_neg h, if_pos (by unfold cntD; rw [List.count_eq_zero.2 h]; rfl)]
      try rfl
theorem ndN_snoc {ds : List Int} {d : Int} : ∀ N : Nat, ndN (ds ++ [d]) N = ndN ds N + if (0 ≤ d ∧ d < N) ∧ d ∉ ds then 1 else 0
  | 0 => by rw [if_neg (by omega)]; rfl
  | N + 1 => by
    show ndN (ds ++ [d]) N + _ = ndN ds N + _ + _
    rw [ndN_snoc N]
    by_cases hd : d = (N : Int)
    · rw [if_neg (by omega)]
      by_cases hm : d ∈ ds
      · rw [if_pos (by simp [hd]), if_pos (by rw [← hd]; exact hm), if_neg (fun h => h.2 hm)]
      · rw [if_pos (by simp [hd]), if_neg (by rw [← hd]; exact hm), if_pos ⟨by omega, hm⟩]
    · have e1 : ((N : Int) ∈ ds ++ [d]) ↔ (N : Int) ∈ ds := by
        rw [List.mem_append, List.mem_singleton]
        exact ⟨fun h => h.resolve_right (fun e => hd e.symm), .inl⟩
      have e2 : ((0 ≤ d ∧ d < ((N + 1 : Nat) : Int)) ∧ d ∉ ds) ↔ ((0 ≤ d ∧ d < (N : Int)) ∧ d ∉ ds) := by
        constructor
        · rintro ⟨⟨h1, h2⟩, h3⟩; exact ⟨⟨h1, by omega⟩, h3⟩
        · rintro ⟨⟨h1, h2⟩, h3⟩; exact ⟨⟨h1, by omega⟩, h3⟩
      simp only [e1, e2]
      omega
theorem ndN_nil : ∀ N, ndN [] N = 0
  | 0 => rfl
  | N + 1 => by
    show ndN [] N + _ = 0
    rw [ndN_nil N]
    simp
theorem mem_ofN {ds : List Int} {N : Nat} {x : Int} (h : x ∈ ofN ds N) : 1 ≤ x := by
  unfold ofN at h
  obtain ⟨h1, h2⟩ := List.mem_filter.1 h
  obtain ⟨n, _, rfl⟩ := List.mem_map.1 h1
  have := cntD_nonneg ds n
  simp at h2
  omega
theorem len_le_sum : ∀ {xs : List Int}, (∀ x ∈ xs, 1 ≤ x) → (xs.length : Int) ≤ xs.sum
  | [], _ => by simp
  | x :: xs, h => by
    rw [List.length_cons, List.sum_cons]
    have := len_le_sum fun y hy => h y (List.mem_cons_of_mem _ hy)
    have := h x List.mem_cons_self
    omega

end Go.Proofs.YtfnngchanhnaiaaDoor
