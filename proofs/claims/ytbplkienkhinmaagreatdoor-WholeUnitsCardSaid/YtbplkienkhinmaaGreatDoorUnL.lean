/- Units of weight: lists of spans in memory. -/
import Derived.Test.YtbplkienkhinmaaGreatDoorFrlA
import Derived.Test.YtbplkienkhinmaaGreatDoorFracN
import Derived.Test.YtbplkienkhinmaaGreatDoorKeep
import Derived.Test.YtbplkienkhinmaaGreatDoorHold
import Derived.Test.YtbplkienkhinmaaGreatDoorUnP
set_option linter.unusedVariables false
set_option linter.unusedSimpArgs false
set_option maxRecDepth 100000
namespace Go.Proofs.YtbplkienkhinmaaGreatDoor
open Go.RowKit Num

theorem cell_spotU {w : World} {p : Addr} {u : Value} (h : w.cell? p = some u) : p.spot = none := by
  unfold World.cell? at h
  split at h
  · split at h
    · cases h
    · simp_all
  · cases h
theorem ints_pl {w : World} {A : Option Addr} {n c k : Nat} {zs : List Int} (h : IntsV w (.slice A n c) zs) (hk : k < zs.length) :
    ∃ b o, A = some ⟨b, o, none⟩ ∧ b < w.heap.size ∧ w.cell? ⟨b, o + k, none⟩ = some (.int .i64 (zs.getD k 0)) := by
  obtain ⟨ad, rfl, hb, hc⟩ := h.at_ hk
  obtain ⟨ad0, e0, _, hc0⟩ := h.at_ (k := 0) (by omega)
  injection e0 with e0
  subst e0
  rw [add_nought] at hc0
  obtain ⟨bb, o, sp⟩ := ad
  have hsp : sp = none := cell_spotU hc0
  subst hsp
  have ha : (⟨bb, o, none⟩ : Addr).add k = ⟨bb, o + k, none⟩ := by
    unfold Addr.add
    by_cases hj : k = 0 <;> simp [hj]
  rw [ha] at hc
  exact ⟨bb, o, rfl, hb, hc⟩
theorem getD_memU {us : List Int} {k : Nat} (hk : k < us.length) : us.getD k 0 ∈ us := by
  rw [List.getD_eq_getElem?_getD, List.getElem?_eq_getElem hk]
  exact List.getElem_mem hk
theorem getD_atU {us : List Int} {k : Nat} (hk : k < us.length) : us[k]? = some (us.getD k 0) := by
  rw [List.getD_eq_getElem?_getD, List.getElem?_eq_getElem hk]
  rfl

/-- The bounds, one behind the other. -/
def flatS (ss : List (Rat × Rat)) : List Rat := ss.flatMap fun p => [p.1, p.2]
theorem flatS_append (a b : List (Rat × Rat)) : flatS (a ++ b) = flatS a ++ flatS b := List.flatMap_append ..
theorem flatS_length (ss : List (Rat × Rat)) : (flatS ss).length = ss.length * 2 := by
  induction ss with
  | nil => rfl
  | cons t l ih =>
    show ([t.1, t.2] ++ flatS l).length = _
    rw [List.length_append, ih]
    show 2 + l.length * 2 = (l.length + 1) * 2
    omega
theorem flatS_at : ∀ {ss : List (Rat × Rat)} {j : Nat} {p : Rat × Rat}, ss[j]? = some p → (flatS ss)[j * 2]? = some p.1 ∧ (flatS ss)[j * 2 + 1]? = some p.2
  | [], j, p, h => by simp at h
  | a :: l, 0, p, h => by
    obtain rfl : a = p := by simpa using h
    exact ⟨rfl, rfl⟩
  | a :: l, j + 1, p, h => by
    have ih := flatS_at (ss := l) (j := j) (p := p) (by simpa using h)
    have e : ∀ i, (flatS (a :: l))[(j + 1) * 2 + i]? = (flatS l)[j * 2 + i]? := fun i => by
      show ([a.1, a.2] ++ flatS l)[(j + 1) * 2 + i]? = _
      rw [List.getElem?_append_right (by show 2 ≤ _; omega)]
      show (flatS l)[(j + 1) * 2 + i - 2]? = _
      congr 1
      omega
    exact ⟨(e 0).trans ih.1, (e 1).trans ih.2⟩
theorem flatS_put (ini : List (Rat × Rat)) (p : Rat × Rat) (hi : Rat) : flatS (ini ++ [(p.1, hi)]) = (flatS (ini ++ [p])).set (ini.length * 2 + 1) hi := by
  rw [flatS_append, flatS_append, List.set_append_right _ _ (by rw [flatS_length]; omega), flatS_length, show ini.length * 2 + 1 - ini.length * 2 = 1 from by omega]
  rfl
theorem fcells_two (ts : List Fc) (t u : Fc) : fcells ts ++ [.bool t.neg, t.num, t.den, .bool u.neg, u.num, u.den] = fcells (ts ++ [t, u]) := by
  unfold fcells
  rw [List.flatMap_append]
  rfl
theorem fcells_consU (t : Fc) (ts : List Fc) : fcells (t :: ts) = .bool t.neg :: t.num :: t.den :: fcells ts := rfl
theorem fcells_setU : ∀ (ts : List Fc) (j : Nat) (t : Fc), (((fcells ts).set (j * 3) (.bool t.neg)).set (j * 3 + 1) t.num).set (j * 3 + 2) t.den = fcells (ts.set j t)
  | [], j, t => by simp [fcells]
  | x :: ts, 0, t => by
    rw [List.set_cons_zero, fcells_consU, fcells_consU]
    rfl
  | x :: ts, j + 1, t => by
    rw [List.set_cons_succ, fcells_consU, fcells_consU, ← fcells_setU ts j t, show (j + 1) * 3 = j * 3 + 1 + 1 + 1 from by omega]
    simp only [List.set_cons_succ]
theorem grownBy_twoU {a b c : World} {row : Option Nat} (h : a.grownBy b row) (k : b.grownBy c row) : a.grownBy c row :=
  ⟨k.os.trans h.os, k.tape.trans h.tape, k.output.trans h.output, Nat.le_trans h.size k.size, fun i hi hne => (k.block i (Nat.lt_of_lt_of_le hi h.size) hne).trans (h.block i hi hne)⟩
theorem info_span : (Tryz.prog.info? 40).map (fun i => (i.zero, i.size, i.bytes)) = some (some (.agg #[.bool false, .slice none 0 0, .slice none 0 0, .bool false, .slice none 0 0, .slice none 0 0]), 6, 112) := by kernel_rfl
theorem cell_six (W : World) (x y z x' y' z' : Value) (t : TypeId) : ∀ j u, [x, y, z, x', y', z'][j]? = some u → (W.alloc (.cells #[x, y, z, x', y', z'] t)).cell? ((⟨W.heap.size, 0, none⟩ : Addr).add j) = some u := by
  intro j u hu
  match j, hu with
  | 0, hu => simp at hu; subst hu; simp [Addr.add, go_sem]
  | 1, hu => simp at hu; subst hu; simp [Addr.add, go_sem]
  | 2, hu => simp at hu; subst hu; simp [Addr.add, go_sem]
  | 3, hu => simp at hu; subst hu; simp [Addr.add, go_sem]
  | 4, hu => simp at hu; subst hu; simp [Addr.add, go_sem]
  | 5, hu => simp at hu; subst hu; simp [Addr.add, go_sem]

/-- What the cells of the bounds hold. -/
def FlatV (w : World) (ts : List Fc) (ss : List (Rat × Rat)) : Prop := ∀ (k : Nat) (t : Fc) (q : Rat), ts[k]? = some t → (flatS ss)[k]? = some q → FracV w t.neg t.num t.den q
/-- A list of spans in a row of the call's own. -/
def OwnS (base : Nat) (w : World) (v : Value) (ts : List Fc) (ss : List (Rat × Rat)) : Prop :=
  (w.ownsRow base 40 6 v ss.length (fcells ts) ∧ ts.length = ss.length * 2) ∧ ∀ (k : Nat) (t : Fc) (q : Rat), ts[k]? = some t → (flatS ss)[k]? = some q → FracV w t.neg t.num t.den q ∧ Far t.num v ∧ Far t.den v
/-- A list of spans, to be read. -/
def SpansV (w : World) (v : Value) (ss : List (Rat × Rat)) : Prop :=
  ∃ A cap ts, v = .slice A ss.length cap ∧ ss.length ≤ cap ∧ cap ≤ 9223372036854775807 ∧ ts.length = ss.length * 2 ∧ Reads w 6 A ss.length (fcells ts) ∧ FlatV w ts ss

section
variable {e : TypeId} {base : Nat} {w w' w1 : World} {v v' : Value} {ts : List Fc} {ss : List (Rat × Rat)} {t u : Fc} {p : Rat × Rat}
theorem OwnS.nil_ (base : Nat) (w : World) : OwnS base w (.slice none 0 0) [] [] := ⟨⟨World.ownsRow_nil _ _ _ _, rfl⟩, by simp⟩
theorem OwnS.ext (h : OwnS base w v ts ss) (hE : Ext w w') : OwnS base w' v ts ss := by
  refine ⟨⟨h.1.1.kept (Ext.grown hE) (by cases v.ownBlock <;> simp), h.1.2⟩, fun k t q hu hm => ?_⟩
  obtain ⟨h1, h2⟩ := h.2 k t q hu hm
  exact ⟨h1.below hE, h2⟩
theorem OwnS.push (h : OwnS base w v ts ss) (ht : FracV w t.neg t.num t.den p.1) (hu : FracV w u.neg u.num u.den p.2) (t1 : Far t.num v) (t2 : Far t.den v) (u1 : Far u.num v) (u2 : Far u.den v) (hown : w'.ownsRow base 40 6 v' (ss.length + 1) (fcells ts ++ [.bool t.neg, t.num, t.den, .bool u.neg, u.num, u.den])) (hg : w.grownBy w' v.ownBlock) (hw : v'.ownBlock = v.ownBlock ∨ New w.heap.size v') :
    OwnS base w' v' (ts ++ [t, u]) (ss ++ [p]) := by
  have far : ∀ {x k}, CanV w x k → Far x v → Far x v' := fun hx hf => by
    rcases hw with hw | hw
    · exact hf.same hw
    · exact Far.new hx hw
  have hl := h.1.2
  refine ⟨⟨by rw [fcells_two] at hown; simpa using hown, by simp [hl]; omega⟩, fun k x y hx hy => ?_⟩
  rw [flatS_append] at hy
  rcases Nat.lt_or_ge k (ss.length * 2) with hk | hk
  · rw [List.getElem?_append_left (by omega)] at hx
    rw [List.getElem?_append_left (by rw [flatS_length]; omega)] at hy
    obtain ⟨k1, k2, k3⟩ := h.2 k x y hx hy
    exact ⟨k1.kept hg k2 k3, far k1.2.1 k2, far k1.2.2 k3⟩
  · rw [List.getElem?_append_right (by omega), hl] at hx
    rw [List.getElem?_append_right (by rw [flatS_length]; omega), flatS_length] at hy
    have hk2 : k - ss.length * 2 = 0 ∨ k - ss.length * 2 = 1 := by
      have := (List.getElem?_eq_some_iff.1 hx).1
      simp at this
      omega
    rcases hk2 with hk2 | hk2
    · rw [hk2] at hx hy
      obtain rfl : t = x := by simpa using hx
      obtain rfl : p.1 = y := by simpa [flatS] using hy
      exact ⟨ht.kept hg t1 t2, far ht.2.1 t1, far ht.2.2 t2⟩
    · rw [hk2] at hx hy
      obtain rfl : u = x := by simpa using hx
      obtain rfl : p.2 = y := by simpa [flatS] using hy
      exact ⟨hu.kept hg u1 u2, far hu.2.1 u1, far hu.2.2 u2⟩
theorem OwnS.ext_of {W : World} (h : OwnS W.heap.size w v ts ss) (hx : Ext W w) (hE : Ext w w1) (hg : w1.grownBy w' v.ownBlock) : Ext W w' :=
  Below.grown (Ext.trans hx hE) hg (by have := hx.size; have := hE.size; omega) fun k hk => (h.1.1.lt k hk).1
theorem OwnS.lt (h : OwnS base w v ts ss) {g : Nat} (hg : v.ownBlock = some g) : base ≤ g ∧ g < w.heap.size := h.1.1.lt g hg
theorem OwnS.new (h : OwnS base w v ts ss) : New base v := fun g hg => (h.lt hg).1
/-- The last span's upper bound is written anew. -/
theorem OwnS.put {g0 c' : Nat} {ini : List (Rat × Rat)} {hi : Rat} {b : Bool} {s t : Value} (h0 : OwnS base w (.slice (some ⟨g0, 0, none⟩) (ini.length + 1) c') ts (ini ++ [p])) (hE : Ext w w1) (he : FracV w1 b s t hi) (hs : New w.heap.size s) (ht : New w.heap.size t) :
    OwnS base (((w1.setCell ⟨g0, (ini.length * 2 + 1) * 3, none⟩ (.bool b)).setCell ⟨g0, (ini.length * 2 + 1) * 3 + 1, none⟩ s).setCell ⟨g0, (ini.length * 2 + 1) * 3 + 2, none⟩ t) (.slice (some ⟨g0, 0, none⟩) (ini.length + 1) c') (ts.set (ini.length * 2 + 1) ⟨b, s, t⟩) (ini ++ [(p.1, hi)]) := by
  have hl := (h0.lt (g := g0) rfl).2
  have av : Far s (.slice (some ⟨g0, 0, none⟩) (ini.length + 1) c') := Far.of_new hs fun g hg => by cases hg; exact hl
  have av' : Far t (.slice (some ⟨g0, 0, none⟩) (ini.length + 1) c') := Far.of_new ht fun g hg => by cases hg; exact hl
  obtain ⟨⟨h1, h2⟩, h3⟩ := h0.ext hE
  have hlen : (ini ++ [p]).length = ini.length + 1 := by simp
  rw [hlen] at h1
  obtain ⟨s1, g1⟩ := World.ownsRow.stored h1 ((ini.length * 2 + 1) * 3) (.bool b)
  obtain ⟨s2, g2⟩ := World.ownsRow.stored s1 ((ini.length * 2 + 1) * 3 + 1) s
  obtain ⟨s3, g3⟩ := World.ownsRow.stored s2 ((ini.length * 2 + 1) * 3 + 2) t
  rw [fcells_setU ts (ini.length * 2 + 1) ⟨b, s, t⟩] at s3
  have hg := grownBy_twoU (grownBy_twoU g1 g2) g3
  have hlen' : (ini ++ [(p.1, hi)]).length = ini.length + 1 := by simp
  rw [hlen] at h2
  refine ⟨⟨by rw [hlen']; exact s3, by rw [List.length_set, hlen']; exact h2⟩, fun i t' q' ht' hq' => ?_⟩
  rw [flatS_put] at hq'
  by_cases hij : i = ini.length * 2 + 1
  · subst hij
    rw [List.getElem?_set_self (by omega)] at ht'
    rw [List.getElem?_set_self (by rw [flatS_length, hlen]; omega)] at hq'
    cases ht'
    cases hq'
    exact ⟨he.kept (v := .slice (some ⟨g0, 0, none⟩) (ini.length + 1) c') hg av av', av, av'⟩
  · rw [List.getElem?_set_ne (fun e => hij e.symm)] at ht' hq'
    obtain ⟨k1, k2, k3⟩ := h3 i t' q' ht' hq'
    exact ⟨k1.kept (v := .slice (some ⟨g0, 0, none⟩) (ini.length + 1) c') hg k2 k3, k2, k3⟩
theorem OwnS.spans (h : OwnS base w v ts ss) : SpansV w v ss := by
  rcases h.1.1.2 with ⟨rfl, h0⟩ | ⟨g, cap, cur, rfl, _, _, hc, hm, _, _⟩
  · have e1 : ss = [] := List.eq_nil_of_length_eq_zero h0
    subst e1
    have e2 : ts = [] := List.eq_nil_of_length_eq_zero (by simpa using h.1.2)
    subst e2
    exact ⟨none, 0, [], rfl, Nat.le_refl _, by omega, rfl, Reads.nil_, fun _ _ _ h => by simp at h⟩
  · exact ⟨_, cap, ts, rfl, hc, hm, h.1.2, Reads.of_own h.1.1, fun k t q hu hm => (h.2 k t q hu hm).1⟩
theorem OwnS.form_succ {n : Nat} (h : OwnS base w v ts ss) (hn : ss.length = n + 1) : ∃ g c, v = .slice (some ⟨g, 0, none⟩) (n + 1) c := by
  rcases h.1.1.2 with ⟨rfl, h0⟩ | ⟨g, cap, cur, rfl, _⟩
  · omega
  · exact ⟨g, cap, by rw [hn]⟩
theorem OwnS.frozen {g n c : Nat} (h : OwnS base w (.slice (some ⟨g, 0, none⟩) n c) ts ss) (hn : ss.length = n) (k : Nat) : w.frozen? ⟨g, k, none⟩ = false := by
  have h1 := h.1.1
  rw [hn] at h1
  exact World.ownsRow.frozenAt h1 k
theorem SpansV.ext (h : SpansV w v ss) (hE : Ext w w') : SpansV w' v ss := by
  obtain ⟨A, cap, ts, h1, h2, h3, h4, h5, h6⟩ := h
  exact ⟨A, cap, ts, h1, h2, h3, h4, h5.below hE, fun k t q hu hm => (h6 k t q hu hm).below hE⟩
theorem SpansV.nil_ (w : World) : SpansV w (.slice none 0 0) [] := ⟨none, 0, [], rfl, Nat.le_refl _, by omega, rfl, Reads.nil_, fun _ _ _ h => by simp at h⟩
theorem SpansV.form (h : SpansV w v ss) : ∃ A c, v = .slice A ss.length c ∧ ss.length ≤ c ∧ c ≤ 9223372036854775807 := by
  obtain ⟨A, cap, ts, h1, h2, h3, _⟩ := h
  exact ⟨A, cap, h1, h2, h3⟩
/-- The six cells of a span. -/
def SixC (w : World) (b o : Nat) (x0 x1 x2 y0 y1 y2 : Value) : Prop :=
  w.cell? ⟨b, o, none⟩ = some x0 ∧ w.cell? ⟨b, o + 1, none⟩ = some x1 ∧ w.cell? ⟨b, o + 2, none⟩ = some x2 ∧ w.cell? ⟨b, o + 3, none⟩ = some y0 ∧ w.cell? ⟨b, o + 4, none⟩ = some y1 ∧ w.cell? ⟨b, o + 5, none⟩ = some y2
theorem SixC.below {b o : Nat} {x0 x1 x2 y0 y1 y2 : Value} (h : SixC w b o x0 x1 x2 y0 y1 y2) (hE : Ext w w') : SixC w' b o x0 x1 x2 y0 y1 y2 := by
  have hb : b < w.heap.size := World.block_lt_of_cell? _ _ h.1
  have k : ∀ {j : Nat} {u : Value}, w.cell? ⟨b, j, none⟩ = some u → w'.cell? ⟨b, j, none⟩ = some u := fun {j u} hu => (hE.cell (p := ⟨b, j, none⟩) hb).trans hu
  exact ⟨k h.1, k h.2.1, k h.2.2.1, k h.2.2.2.1, k h.2.2.2.2.1, k h.2.2.2.2.2⟩
theorem SpansV.at_ {A : Option Addr} {n c j : Nat} (h : SpansV w (.slice A n c) ss) (hj : ss[j]? = some p) :
    ∃ b o n1 A1 k1 c1 A2 k2 c2 n2 A3 k3 c3 A4 k4 c4, A = some ⟨b, o, none⟩ ∧ b < w.heap.size ∧ SixC w b (o + j * 6) (.bool n1) (.slice A1 k1 c1) (.slice A2 k2 c2) (.bool n2) (.slice A3 k3 c3) (.slice A4 k4 c4) ∧
      FracV w n1 (.slice A1 k1 c1) (.slice A2 k2 c2) p.1 ∧ FracV w n2 (.slice A3 k3 c3) (.slice A4 k4 c4) p.2 := by
  obtain ⟨A0, cap, ts, e, h2, h3, h4, h5, h6⟩ := h
  injection e with e1 e2 e3
  subst e1
  have hlt : j < ss.length := (List.getElem?_eq_some_iff.1 hj).1
  obtain ⟨ad, rfl, hb, hc⟩ := h5.2 (by omega)
  obtain ⟨t, ht⟩ : ∃ t, ts[j * 2]? = some t := ⟨_, List.getElem?_eq_getElem (by omega)⟩
  obtain ⟨u, hu⟩ : ∃ t, ts[j * 2 + 1]? = some t := ⟨_, List.getElem?_eq_getElem (by omega)⟩
  obtain ⟨t0, ht0⟩ : ∃ t, ts[0]? = some t := ⟨_, List.getElem?_eq_getElem (by omega)⟩
  have gz := hc 0 _ (fcells_at ht0).1
  obtain ⟨c0, c1, c2⟩ := fcells_at ht
  obtain ⟨c3, c4, c5⟩ := fcells_at hu
  obtain ⟨q1, q2⟩ := flatS_at hj
  have f1 := h6 _ t _ ht q1
  have f2 := h6 _ u _ hu q2
  have g0 := hc _ _ c0
  have g1 := hc _ _ c1
  have g2 := hc _ _ c2
  have g3 := hc _ _ c3
  have g4 := hc _ _ c4
  have g5 := hc _ _ c5
  obtain ⟨neg, num, den⟩ := t
  obtain ⟨neg', num', den'⟩ := u
  obtain ⟨A1, k1, c1', e1⟩ := f1.2.1.form
  obtain ⟨A2, k2, c2', e2⟩ := f1.2.2.form
  obtain ⟨A3, k3, c3', e3⟩ := f2.2.1.form
  obtain ⟨A4, k4, c4', e4⟩ := f2.2.2.form
  simp only at e1 e2 e3 e4 f1 f2 g0 g1 g2 g3 g4 g5
  subst e1 e2 e3 e4
  obtain ⟨bb, o, sp⟩ := ad
  have hsp : sp = none := by have := cell_spotU gz; simpa [Addr.add] using this
  subst hsp
  have ha : ∀ j, (⟨bb, o, none⟩ : Addr).add j = ⟨bb, o + j, none⟩ := fun j => by
    unfold Addr.add
    by_cases hj : j = 0 <;> simp [hj]
  rw [ha] at g0 g1 g2 g3 g4 g5
  rw [show o + j * 2 * 3 = o + j * 6 from by omega] at g0
  rw [show o + (j * 2 * 3 + 1) = o + j * 6 + 1 from by omega] at g1
  rw [show o + (j * 2 * 3 + 2) = o + j * 6 + 2 from by omega] at g2
  rw [show o + (j * 2 + 1) * 3 = o + j * 6 + 3 from by omega] at g3
  rw [show o + ((j * 2 + 1) * 3 + 1) = o + j * 6 + 4 from by omega] at g4
  rw [show o + ((j * 2 + 1) * 3 + 2) = o + j * 6 + 5 from by omega] at g5
  exact ⟨bb, o, neg, A1, k1, c1', A2, k2, c2', neg', A3, k3, c3', A4, k4, c4', rfl, hb, ⟨g0, g1, g2, g3, g4, g5⟩, f1, f2⟩
end

/-- A list of spans and no error. -/
def GivesSp (w : World) (ss : List (Rat × Rat)) (e : Ending) (w' : World) : Prop := ∃ A c, e = .returned (.tuple #[.slice A ss.length c, .int .i64 0]) ∧ SpansV w' (.slice A ss.length c) ss ∧ Ext w w'

end Go.Proofs.YtbplkienkhinmaaGreatDoor
