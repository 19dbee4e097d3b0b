/- Lists whose elements are slices: lists of lists. No function is named here. The reference's allocations. -/
import Derived.Test.YtnedgbebajhcpaaGreatDoorFrl
import Derived.Test.YtnedgbebajhcpaaGreatDoorKeep
import Derived.Test.YtnedgbebajhcpaaGreatDoorSamU
set_option linter.unusedVariables false
set_option linter.unusedSimpArgs false
set_option maxRecDepth 100000
namespace Go.Proofs.YtnedgbebajhcpaaGreatDoor
open Go.RowKit Num

section
variable {w w' : World} {row : Option Nat}
theorem grown_cell {p : Addr} (hg : w.grownBy w' row) (hp : p.block < w.heap.size) (hne : some p.block ≠ row) : w'.cell? p = w.cell? p := World.cell?_of_block (hg.block _ hp hne)
theorem Reads.grown {size n : Nat} {A : Option Addr} {xs : List Value} (h : Reads w size A n xs) (hg : w.grownBy w' row) (hne : ∀ ad, A = some ad → some ad.block ≠ row) : Reads w' size A n xs := by
  refine ⟨h.1, fun hn => ?_⟩
  obtain ⟨ad, e, hb, hc⟩ := h.2 hn
  exact ⟨ad, e, Nat.lt_of_lt_of_le hb hg.size, fun j u hu => (grown_cell (p := ad.add j) hg (by rw [block_of_add]; exact hb) (by rw [block_of_add]; exact hne _ e)).trans (hc j u hu)⟩
theorem IntsV.grown {v : Value} {zs : List Int} (h : IntsV w v zs) (hg : w.grownBy w' row) (hne : ∀ b, v.ownBlock = some b → some b ≠ row) : IntsV w' v zs := by
  obtain ⟨A, c, rfl, h2, h3, h4⟩ := h
  exact ⟨A, c, rfl, h2, h3, h4.grown hg fun ad e => hne _ (by rw [e]; rfl)⟩
theorem CanV.grownS {v : Value} {n : Nat} (h : CanV w v n) (hg : w.grownBy w' row) (hne : ∀ b, v.ownBlock = some b → some b ≠ row) : CanV w' v n := by
  obtain ⟨A, c, rfl, h2, h3, h4⟩ := h
  exact ⟨A, c, rfl, h2, h3, h4.grown hg fun ad e => hne _ (by rw [e]; rfl)⟩
theorem FracsV.grown {B : Nat} {v : Value} {qs : List Rat} (h : FracsV B w v qs) (hv : New B v) (hg : w.grownBy w' row) (hrow : ∀ g, row = some g → g < B) : FracsV B w' v qs := by
  obtain ⟨A, cap, ts, rfl, h2, h3, h4, h5, h6⟩ := h
  have hN : ∀ {u : Value}, New B u → ∀ b, u.ownBlock = some b → some b ≠ row := fun {u} hu b hb e => by
    have h1 := hu b hb
    have h2 := hrow b e.symm
    omega
  refine ⟨A, cap, ts, rfl, h2, h3, h4, h5.grown hg fun ad e => hN hv _ (by rw [e]; rfl), fun k t q hu hm => ?_⟩
  obtain ⟨k1, k2, k3⟩ := h6 k t q hu hm
  exact ⟨⟨k1.1, k1.2.1.grownS hg (hN k2), k1.2.2.grownS hg (hN k3)⟩, k2, k3⟩
end

/-- What is known of a list's elements in any world that has but grown, or written the block of the list itself. -/
def OwnP {α : Type} (P : World → Value → α → Prop) (e : TypeId) (base : Nat) (w : World) (v : Value) (us : List Value) (xs : List α) : Prop :=
  w.ownsRow base e 1 v xs.length us ∧ ∀ (k : Nat) (u : Value) (x : α), us[k]? = some u → xs[k]? = some x → ∀ w', w.grownBy w' v.ownBlock → P w' u x
/-- The same, to be read. -/
def ListP {α : Type} (P : World → Value → α → Prop) (w : World) (v : Value) (xs : List α) : Prop :=
  ∃ A cap us, v = .slice A xs.length cap ∧ xs.length ≤ cap ∧ cap ≤ 9223372036854775807 ∧ Reads w 1 A xs.length us ∧ ∀ (k : Nat) (u : Value) (x : α), us[k]? = some u → xs[k]? = some x → ∀ w', Ext w w' → P w' u x

section
variable {α : Type} {P : World → Value → α → Prop} {e : TypeId} {base : Nat} {w w' w1 : World} {v v' u : Value} {us : List Value} {xs : List α} {x : α}
theorem grown_then {a b c : World} {row row' : Option Nat} (h : a.grownBy b row) (k : b.grownBy c row') (hr : ∀ j, row' = some j → a.heap.size ≤ j ∨ row = some j) : a.grownBy c row :=
  ⟨k.os.trans h.os, k.tape.trans h.tape, k.output.trans h.output, Nat.le_trans h.size k.size, fun i hi hne =>
    (k.block i (Nat.lt_of_lt_of_le hi h.size) (fun e => by
      rcases hr i e.symm with h1 | h1
      · omega
      · exact hne h1.symm)).trans (h.block i hi hne)⟩
theorem Ext.grownR (h : Ext w w') (row : Option Nat) : w.grownBy w' row := ⟨h.os, h.tape, h.output, h.size, fun k hk _ => h.block k hk⟩
theorem grown_ext {W : World} {row : Option Nat} (h : w.grownBy w' row) (hr : ∀ g, row = some g → W.heap.size ≤ g) (hx : Ext W w) : Ext W w' :=
  Below.grown hx h hx.size hr
theorem OwnP.nil_ (P : World → Value → α → Prop) (e : TypeId) (base : Nat) (w : World) : OwnP P e base w (.slice none 0 0) [] [] := ⟨World.ownsRow_nil _ _ _ _, by simp⟩
theorem OwnP.ext (h : OwnP P e base w v us xs) (hE : Ext w w') : OwnP P e base w' v us xs :=
  ⟨h.1.kept (Ext.grown hE) (by cases v.ownBlock <;> simp), fun k u x hu hx w'' hg => h.2 k u x hu hx w'' (grown_then (hE.grownR v.ownBlock) hg fun j hj => .inr hj)⟩
theorem OwnP.push (h : OwnP P e base w v us xs) (hE : Ext w w1) (hP : ∀ w', w1.grownBy w' v.ownBlock → P w' u x) (hown : w'.ownsRow base e 1 v' (xs.length + 1) (us ++ [u])) (hg : w1.grownBy w' v.ownBlock) (hw : v'.ownBlock = v.ownBlock ∨ New w1.heap.size v') :
    OwnP P e base w' v' (us ++ [u]) (xs ++ [x]) := by
  have h0 := h.ext hE
  have hl : us.length = xs.length := by have := h.1.1; omega
  have hr : ∀ w'', w'.grownBy w'' v'.ownBlock → w1.grownBy w'' v.ownBlock := fun w'' hk => grown_then hg hk fun j hj => by
    rcases hw with hw | hw
    · exact .inr (hw ▸ hj)
    · exact .inl (hw j hj)
  refine ⟨by simpa using hown, fun k a b ha hb w'' hk => ?_⟩
  rcases Nat.lt_or_ge k xs.length with hlt | hge
  · rw [List.getElem?_append_left (by omega)] at ha hb
    exact h0.2 k a b ha hb w'' (hr w'' hk)
  · rw [List.getElem?_append_right (by omega)] at ha hb
    rw [hl] at ha
    have hk0 : k - xs.length = 0 := by
      rcases Nat.eq_zero_or_pos (k - xs.length) with h | h
      · exact h
      · rw [List.getElem?_eq_none (by simp; omega)] at hb; cases hb
    rw [hk0] at ha hb
    simp at ha hb
    subst ha hb
    exact hP w'' (hr w'' hk)
theorem OwnP.list (h : OwnP P e base w v us xs) : ListP P w v xs := by
  rcases h.1.2 with ⟨rfl, h0⟩ | ⟨g, cap, cur, rfl, _, _, hc, hm, _, _⟩
  · have : xs = [] := List.eq_nil_of_length_eq_zero h0
    subst this
    exact ⟨none, 0, [], rfl, Nat.le_refl _, by omega, Reads.nil_, by simp⟩
  · exact ⟨_, cap, us, rfl, hc, hm, Reads.of_own h.1, fun k u x hu hx w' hE => h.2 k u x hu hx w' (hE.grownR _)⟩
theorem OwnP.grow_ext {W : World} (h : OwnP P e W.heap.size w v us xs) (hx : Ext W w) (hE : Ext w w1) (hg : w1.grownBy w' v.ownBlock) : Ext W w' :=
  grown_ext hg (fun k hk => (h.1.lt k hk).1) (Ext.trans hx hE)
theorem ListP.ext (h : ListP P w v xs) (hE : Ext w w') : ListP P w' v xs := by
  obtain ⟨A, cap, us, h1, h2, h3, h4, h5⟩ := h
  exact ⟨A, cap, us, h1, h2, h3, h4.below hE, fun k u x hu hx w'' hk => h5 k u x hu hx w'' (hE.trans hk)⟩
theorem ListP.form (h : ListP P w v xs) : ∃ A c, v = .slice A xs.length c ∧ xs.length ≤ c ∧ c ≤ 9223372036854775807 := by
  obtain ⟨A, cap, us, h1, h2, h3, _⟩ := h
  exact ⟨A, cap, h1, h2, h3⟩
theorem ListP.at_ {A : Option Addr} {n c k : Nat} (h : ListP P w (.slice A n c) xs) (hk : xs[k]? = some x) :
    ∃ b o u, A = some ⟨b, o, none⟩ ∧ b < w.heap.size ∧ w.cell? ⟨b, o + k, none⟩ = some u ∧ ∀ w', Ext w w' → P w' u x := by
  obtain ⟨A0, cap, us, e, h2, h3, h4, h5⟩ := h
  injection e with e1 e2 e3
  subst e1
  have hlt : k < xs.length := (List.getElem?_eq_some_iff.1 hk).1
  obtain ⟨ad, u, rfl, hb, hu, hc⟩ := h4.at_ (k := k) hlt
  obtain ⟨ad0, u0, e0, _, _, hc0⟩ := h4.at_ (k := 0) (by omega)
  injection e0 with e0
  subst e0
  obtain ⟨bb, o, sp⟩ := ad
  have hsp : sp = none := by have := Go.Proofs.YtnedgbebajhcpaaGreatDoor.cell_spotF hc0; simpa [Addr.add] using this
  subst hsp
  have ha : (⟨bb, o, none⟩ : Addr).add k = ⟨bb, o + k, none⟩ := by
    unfold Addr.add
    split
    · subst_vars; rfl
    · rfl
  rw [ha] at hc
  exact ⟨bb, o, u, rfl, hb, hc, h5 k u x hu hk⟩
end

/-- The same, whatever the elements' slices are. -/
def OwnX {α : Type} (P : World → Value → α → Prop) (e : TypeId) (base : Nat) (w : World) (v : Value) (xs : List α) : Prop := ∃ us, OwnP P e base w v us xs
theorem OwnX.ext {α : Type} {P : World → Value → α → Prop} {e : TypeId} {base : Nat} {w w' : World} {v : Value} {xs : List α} (h : OwnX P e base w v xs) (hE : Ext w w') : OwnX P e base w' v xs := by
  obtain ⟨us, h⟩ := h
  exact ⟨us, h.ext hE⟩
/-- A list of int that is new since B. -/
def PB (B : Nat) (w : World) (u : Value) (zs : List Int) : Prop := IntsV w u zs ∧ New B u
theorem IntsV.reads_ {w : World} {A : Option Addr} {n c : Nat} {zs : List Int} (h : IntsV w (.slice A n c) zs) : Reads w 1 A n (i64l zs) := by
  obtain ⟨A', c', e, _, _, h4⟩ := h
  injection e with e1 e2 e3
  subst e1 e2
  exact h4
/-- What lay from B on is as it was. -/
def KeptB (B : Nat) (W w' : World) : Prop := W.heap.size ≤ w'.heap.size ∧ ∀ k, B ≤ k → k < W.heap.size → w'.heap[k]? = W.heap[k]?
theorem KeptB.refl (B : Nat) (W : World) : KeptB B W W := ⟨Nat.le_refl _, fun _ _ _ => rfl⟩
theorem KeptB.of_ext {B : Nat} {W w' : World} (h : Ext W w') : KeptB B W w' := ⟨h.size, fun k _ hk => h.block k hk⟩
theorem KeptB.step {B : Nat} {W w w1 w' : World} {row : Option Nat} (h : KeptB B W w) (hE : Ext w w1) (hg : w1.grownBy w' row) (hr : ∀ g, row = some g → g < B ∨ W.heap.size ≤ g) : KeptB B W w' := by
  have s1 := h.1
  have s2 := hE.size
  have s3 := hg.size
  refine ⟨by omega, fun k hB hk => ?_⟩
  have h1 := hg.block k (by omega) (fun e => by have := hr k e.symm; omega)
  exact h1.trans ((hE.block k (by omega)).trans (h.2 k hB hk))
theorem Reads.keptB {B size n : Nat} {w w' : World} {A : Option Addr} {xs : List Value} (h : Reads w size A n xs) (hk : KeptB B w w') (hA : ∀ ad, A = some ad → B ≤ ad.block) : Reads w' size A n xs := by
  refine ⟨h.1, fun hn => ?_⟩
  obtain ⟨ad, e, hb, hc⟩ := h.2 hn
  exact ⟨ad, e, Nat.lt_of_lt_of_le hb hk.1, fun j u hu => (World.cell?_of_block (a := ad.add j) (by rw [block_of_add]; exact hk.2 _ (hA _ e) hb)).trans (hc j u hu)⟩
theorem IntsV.keptB {B : Nat} {w w' : World} {v : Value} {zs : List Int} (h : IntsV w v zs) (hn : New B v) (hk : KeptB B w w') : IntsV w' v zs := by
  obtain ⟨A, c, rfl, h2, h3, h4⟩ := h
  exact ⟨A, c, rfl, h2, h3, h4.keptB hk fun ad e => hn _ (by rw [e]; rfl)⟩
/-- A list of lists of int, all of it new since B. -/
def LLs (B : Nat) (w : World) (v : Value) (L : List (List Int)) : Prop :=
  ∃ A cap us, v = .slice A L.length cap ∧ L.length ≤ cap ∧ cap ≤ 9223372036854775807 ∧ New B v ∧ Reads w 1 A L.length us ∧ ∀ (k : Nat) (u : Value) (x : List Int), us[k]? = some u → L[k]? = some x → PB B w u x
section
variable {B : Nat} {w w' : World} {v : Value} {L : List (List Int)}
theorem LLs.kept (h : LLs B w v L) (hk : KeptB B w w') : LLs B w' v L := by
  obtain ⟨A, cap, us, rfl, h2, h3, h4, h5, h6⟩ := h
  exact ⟨A, cap, us, rfl, h2, h3, h4, h5.keptB hk fun ad e => h4 _ (by rw [e]; rfl), fun k u x hu hx => ⟨(h6 k u x hu hx).1.keptB (h6 k u x hu hx).2 hk, (h6 k u x hu hx).2⟩⟩
theorem LLs.ext (h : LLs B w v L) (hE : Ext w w') : LLs B w' v L := h.kept (KeptB.of_ext hE)
theorem LLs.mono {B' : Nat} (h : LLs B w v L) (hB : B' ≤ B) : LLs B' w v L := by
  obtain ⟨A, cap, us, rfl, h2, h3, h4, h5, h6⟩ := h
  exact ⟨A, cap, us, rfl, h2, h3, fun b hb => Nat.le_trans hB (h4 b hb), h5, fun k u x hu hx => ⟨(h6 k u x hu hx).1, fun b hb => Nat.le_trans hB ((h6 k u x hu hx).2 b hb)⟩⟩
theorem LLs.form (h : LLs B w v L) : ∃ A c, v = .slice A L.length c ∧ L.length ≤ c ∧ c ≤ 9223372036854775807 := by
  obtain ⟨A, cap, us, h1, h2, h3, _⟩ := h
  exact ⟨A, cap, h1, h2, h3⟩
theorem LLs.at_ {A : Option Addr} {n c k : Nat} {x : List Int} (h : LLs B w (.slice A n c) L) (hk : L[k]? = some x) :
    ∃ b o u, A = some ⟨b, o, none⟩ ∧ b < w.heap.size ∧ w.cell? ⟨b, o + k, none⟩ = some u ∧ PB B w u x := by
  obtain ⟨A0, cap, us, e, h2, h3, hN, h4, h5⟩ := h
  injection e with e1 e2 e3
  subst e1
  have hlt : k < L.length := (List.getElem?_eq_some_iff.1 hk).1
  obtain ⟨ad, u, rfl, hb, hu, hc⟩ := h4.at_ (k := k) hlt
  obtain ⟨ad0, u0, e0, _, _, hc0⟩ := h4.at_ (k := 0) (by omega)
  injection e0 with e0
  subst e0
  obtain ⟨bb, o, sp⟩ := ad
  have hsp : sp = none := by have := Go.Proofs.YtnedgbebajhcpaaGreatDoor.cell_spotF hc0; simpa [Addr.add] using this
  subst hsp
  have ha : (⟨bb, o, none⟩ : Addr).add k = ⟨bb, o + k, none⟩ := by
    unfold Addr.add
    by_cases hj : k = 0 <;> simp [hj]
  rw [ha] at hc
  exact ⟨bb, o, u, rfl, hb, hc, h5 k u x hu hk⟩
theorem OwnP.lls {e : TypeId} {us : List Value} (h : OwnP (PB B) e B w v us L) : LLs B w v L := by
  have hN : New B v := fun b hb => (h.1.lt b hb).1
  rcases h.1.2 with ⟨rfl, h0⟩ | ⟨g, cap, cur, rfl, _, _, hc, hm, _, _⟩
  · have : L = [] := List.eq_nil_of_length_eq_zero h0
    subst this
    exact ⟨none, 0, [], rfl, Nat.le_refl _, by omega, hN, Reads.nil_, by simp⟩
  · exact ⟨_, cap, us, rfl, hc, hm, hN, Reads.of_own h.1, fun k u x hu hx => h.2 k u x hu hx w (Ext.grownR (Below.refl _ _) _)⟩
end
/-- The literal of one list with one number. -/
theorem LLs.lit1 {e1 e2 : TypeId} (w : World) (m : Int) : LLs w.heap.size ((w.alloc (.cells #[.int .i64 m] e1)).alloc (.cells #[.slice (some ⟨w.heap.size, 0, none⟩) 1 1] e2)) (.slice (some ⟨w.heap.size + 1, 0, none⟩) 1 1) [[m]] := by
  refine ⟨_, 1, [.slice (some ⟨w.heap.size, 0, none⟩) 1 1], rfl, Nat.le_refl _, by omega, New.at_ (by omega), ⟨rfl, fun _ => ⟨_, rfl, by simp, fun j u hu => ?_⟩⟩, fun k u x hu hx => ?_⟩
  · rw [List.getElem?_singleton] at hu
    split at hu
    · rename_i hj
      subst hj
      cases hu
      simp [go_sem, Addr.add]
    · cases hu
  · rw [List.getElem?_singleton] at hu hx
    split at hu
    · rename_i hj
      subst hj
      cases hu
      rw [if_pos rfl] at hx
      cases hx
      refine ⟨⟨_, 1, rfl, Nat.le_refl _, by show 1 ≤ _; omega, rfl, fun _ => ⟨_, rfl, by simp; omega, fun j u hu => ?_⟩⟩, New.at_ (Nat.le_refl _)⟩
      unfold i64l at hu
      rw [List.map_cons, List.map_nil, List.getElem?_singleton] at hu
      split at hu
      · rename_i hj
        subst hj
        cases hu
        simp [go_sem, Addr.add]
      · cases hu
    · cases hu

end Go.Proofs.YtnedgbebajhcpaaGreatDoor
namespace Go.Proofs.YtnedgbebajhcpaaGreatDoor
open Go.RowKit Num

theorem info_il : (Tryz.prog.info? 33).map (fun i => (i.zero, i.size, i.bytes)) = some (some (.slice none 0 0), 1, 24) := by kernel_rfl
theorem wpList_append_fullS {P : Program} (w : World) {ops : Array Oper} {rest : List Oper} {o : Oper} {a : Act} {Q : Exit → Act → World → Prop} (hgd : o.guard = none) (s x : Operand) (t : TypeId)
    (hop : o.op = .call { callee := .builtin .append, args := #[s, x], argTypes := #[t, t] })
    (e : TypeId) (i : TypeInfo) (z : Value) (size bytes : Nat) (ht : P.underlying t = some (.slice e)) (hi : P.info? e = some i) (hz : i.zero = some z)
    (hsize : i.size = size) (hby : i.bytes = bytes) (hzs : z.cells.size = size) (hsz : 0 < size)
    (ao bo : Option Addr) (n m c : Nat) (olds news : List Value) (hs : a.eval s = .slice ao n n) (hx : a.eval x = .slice bo m c) (ho : Reads w size ao n olds) (hr : Reads w size bo m news) (h1 : ∀ u ∈ news, u.oneCell' = true)
    (h63 : n + m ≤ maxLen) (hbytes : (n + m) * bytes ≤ 140737488355328)
    (h : ∀ ao' cap' w', n + m ≤ cap' → cap' ≤ 9223372036854775807 → Reads w' size ao' (n + m) (olds ++ news) → Ext w w' → (∀ ad, ao' = some ad → ao = some ad ∨ w.heap.size ≤ ad.block) → wpList P ops Q rest (a.put o.dst (.slice ao' (n + m) cap')) w') :
    wpList P ops Q (o :: rest) a w :=
  wpList_plain hgd fun K hK' => wp_append_full w s x t hop e i z size bytes ht hi hz hsize hby hzs hsz ao bo n m c olds news hs hx ho hr h1 h63 hbytes fun ao' cap' w' k1 k2 k3 k4 k5 => hK' _ _ (h ao' cap' w' k1 k2 k3 k4 k5)

/-- A list of lists of int. -/
def GivesLL (w : World) (L : List (List Int)) (e : Ending) (w' : World) : Prop := ∃ A n c, e = .returned (.slice A n c) ∧ n = L.length ∧ LLs w.heap.size w' (.slice A n c) L ∧ Ext w w'
/-- The lists that begin with a number below f. -/
def allL (K m f : Nat) : List (List Int) := (List.range f).flatMap fun x => (allocs K (m - x)).map fun t => natsS (x :: t)
theorem allL_zero (K m : Nat) : allL K m 0 = [] := rfl
theorem allL_all (K m : Nat) : allL K m (m + 1) = (allocs (K + 1) m).map natsS := by
  unfold allL
  rw [allocs, List.map_flatMap]
  congr 1
  funext f
  rw [List.map_map]
  rfl
theorem allL_succ (K m f : Nat) : allL K m (f + 1) = allL K m f ++ ((allocs K (m - f)).map natsS).map ((f : Int) :: ·) := by
  unfold allL
  rw [List.range_succ, List.flatMap_append]
  congr 1
  rw [List.flatMap_singleton, List.map_map]
  rfl
theorem allocs_len : ∀ (K m : Nat), m ≤ 12 → (allocs K m).length ≤ 13 ^ K
  | 0, m, h => by rw [allocs]; exact Nat.le_refl _
  | K + 1, m, h => by
    rw [allocs, List.length_flatMap]
    have hb : ∀ (l : List Nat), (l.map fun f => ((allocs K (m - f)).map (f :: ·)).length).sum ≤ l.length * 13 ^ K := by
      intro l
      induction l with
      | nil => exact Nat.zero_le _
      | cons x l ih =>
        rw [List.map_cons, List.sum_cons, List.length_cons, Nat.succ_mul, List.length_map]
        have := allocs_len K (m - x) (by omega)
        omega
    have h2 := hb (List.range (m + 1))
    rw [List.length_range] at h2
    rw [Nat.pow_succ, Nat.mul_comm (13 ^ K)]
    exact Nat.le_trans h2 (Nat.mul_le_mul_right _ (by omega))
theorem allL_len {K m f : Nat} (hK : K ≤ 3) (hm : m ≤ 12) (hf : f ≤ 13) : (allL K m f).length ≤ 28561 := by
  have hb : ∀ (l : List Nat), (l.map fun x => ((allocs K (m - x)).map fun t => natsS (x :: t)).length).sum ≤ l.length * 13 ^ 3 := by
    intro l
    induction l with
    | nil => exact Nat.zero_le _
    | cons x l ih =>
      rw [List.map_cons, List.sum_cons, List.length_cons, Nat.succ_mul, List.length_map]
      have h1 := allocs_len K (m - x) (by omega)
      have h2 : 13 ^ K ≤ 13 ^ 3 := Nat.pow_le_pow_right (by omega) hK
      omega
  unfold allL
  rw [List.length_flatMap]
  have h2 := hb (List.range f)
  rw [List.length_range] at h2
  exact Nat.le_trans h2 (Nat.mul_le_mul_right (13 ^ 3) hf)
theorem natsS_one {K m : Nat} {x : List Int} (h : x ∈ (allocs K m).map natsS) : x.length = K + 1 := by
  obtain ⟨l, hl, rfl⟩ := List.mem_map.1 h
  rw [natsS_length, (mem_allocs.1 hl).1]

set_option maxHeartbeats 8000000 in
theorem ralloc_n : ∀ (K m : Nat) (w : World), K ≤ 3 → m ≤ 12 → Calls Tryz.prog 34 #[.int .i64 ((K : Int) + 1), .int .i64 m] w (GivesLL w ((allocs K m).map natsS))
  | 0, m, w, _, _ => by
    rw [show ((0 : Nat) : Int) + 1 = 1 from rfl]
    go_enter Tryz.func34, Tryz.ntmps34
    go_wp2
    go_ret
    exact ⟨_, _, _, rfl, rfl, LLs.lit1 w (m : Int), ext_alloc (ext_alloc (Below.refl _ _) _) _⟩
  | K + 1, m, w, hK, hm => by
    have IH := Lib.hid (fun (f : Nat) (w' : World) => ralloc_n K (m - f) w' (by omega) (by omega))
    have HAL := Lib.hid (allL_all K m)
    have HAN := Lib.hid (fun (f : Nat) (h : f ≤ 13) => allL_len (K := K) (m := m) (f := f) (by omega) hm h)
    have HAS := Lib.hid (allL_succ K m)
    have HNL := Lib.hid (fun (f : Nat) (x : List Int) (h : x ∈ (allocs K (m - f)).map natsS) => natsS_one h)
    have HLL := Lib.hid (fun (f : Nat) => (show ((allocs K (m - f)).map natsS).length ≤ 2197 from by
      rw [List.length_map]
      exact Nat.le_trans (allocs_len K (m - f) (by omega)) (Nat.le_trans (Nat.pow_le_pow_right (by omega) (show K ≤ 3 by omega)) (by decide))))
    obtain ⟨i0, hi, hz0, hz1, hz2⟩ := info_parts info_int
    obtain ⟨i1, hj, hy0, hy1, hy2⟩ := info_parts info_il
    have ek : ¬ (((K + 1 : Nat) : Int) + 1 = 1) := by omega
    have ek2 : ¬ ((K : Int) + 1 + 1 = 1) := by omega
    have ewk : IntKind.i64.wrap (((K + 1 : Nat) : Int) + 1 - 1) = (K : Int) + 1 := by rw [wrap_in (by omega)]; omega
    have ewk2 : IntKind.i64.wrap ((K : Int) + 1 + 1 - 1) = (K : Int) + 1 := by rw [wrap_in (by omega)]; omega
    go_enter Tryz.func34, Tryz.ntmps34
    go_wp2
    go_loopw [5, 6] (fun ov iv wr => ∃ f : Nat, f ≤ m + 1 ∧ iv = .int .i64 f ∧ OwnX (PB w.heap.size) 33 w.heap.size wr ov (allL K m f) ∧ Ext w wr) (fun _ iv _ => m + 1 - (intOf iv).toNat)
    case atStart => exact ⟨0, Nat.zero_le _, rfl, ⟨[], OwnP.nil_ _ _ _ _⟩, Below.refl _ _⟩
    case round =>
      obtain ⟨f, hf, rfl, hO, hX⟩ := hrel
      by_cases hfm : f ≤ m
      · have hO0 := Lib.hid hO
        have hb1 : (f : Int) ≤ (m : Int) := by omega
        have hwf : IntKind.i64.wrap ((m : Int) - (f : Int)) = ((m - f : Nat) : Int) := by rw [wrap_in (by omega)]; omega
        have hwf1 : IntKind.i64.wrap ((f : Int) + 1) = (f : Int) + 1 := wrap_in (by omega)
        clear hO
        go_wp2_with fail
        refine (IH.out f _).mono ?_
        rintro e w2 ⟨A2, n2, c2, rfl, hn2, hL, x2⟩
        obtain ⟨R, hR⟩ : ∃ R, R = (allocs K (m - f)).map natsS := ⟨_, rfl⟩
        have HS1 := HAS.out f
        have HN1 := HNL.out f
        have HL1 := HLL.out f
        rw [← hR] at hL HS1 HN1 HL1 hn2
        have HAS1 := Lib.hid HS1
        have HN1 := Lib.hid HN1
        have HLD := Lib.hid (fun (w' : World) (h : KeptB wr.heap.size w2 w') => hL.kept h)
        have hO2 := hO0.out.ext x2
        have hlt0 : ∀ g, u5.ownBlock = some g → g < wr.heap.size ∨ w2.heap.size ≤ g := fun g hg => by
          obtain ⟨us, h⟩ := hO0.out
          exact .inl (h.1.lt g hg).2
        have hws := hX.size
        obtain ⟨BW, hBW⟩ : ∃ BW, BW = wr.heap.size := ⟨_, rfl⟩
        rw [← hBW] at HLD hlt0 hws
        have hX2 := hX.trans x2
        have HN2 := Lib.hid hn2
        have hn22 : n2 ≤ 2197 := by omega
        clear hL HS1 hR hn2 HL1
        go_wp2
        go_loopw [5, 8] (fun ov iv wr => ∃ j : Nat, j ≤ n2 ∧ iv = .int .i64 j ∧ OwnX (PB w.heap.size) 33 w.heap.size wr ov (allL K m f ++ (R.take j).map ((f : Int) :: ·)) ∧ (∀ g, ov.ownBlock = some g → g < BW ∨ w2.heap.size ≤ g) ∧ KeptB BW w2 wr ∧ Ext w wr) (fun _ iv _ => n2 - (intOf iv).toNat)
        case atStart => exact ⟨0, Nat.zero_le _, rfl, by rw [List.take_zero, List.map_nil, List.append_nil]; exact hO2, hlt0, KeptB.refl _ _, hX2⟩
        case round =>
          clear hO2 hlt0
          obtain ⟨j, hj1, rfl, ⟨us, hO⟩, hlt, hKr, hXw⟩ := hrel
          by_cases hjR : j < n2
          · have hjR' : j < R.length := by rw [← HN2.out]; exact hjR
            have hAl := HAN.out f (by omega)
            obtain ⟨x, hx⟩ : ∃ x, R[j]? = some x := ⟨_, List.getElem?_eq_getElem hjR'⟩
            have hxm : x ∈ R := List.mem_of_getElem? hx
            have hxl := HN1.out x hxm
            have hx3 : x.length ≤ 3 := by omega
            obtain ⟨b, o, u, rfl, hb, hcell, hP, hPN⟩ := (HLD.out _ hKr).at_ hx
            obtain ⟨Au, cu, rfl, _⟩ := id hP
            have HP := Lib.hid hP
            clear hPN
            have HO := Lib.hid hO
            have HX := Lib.hid hx
            have hlen : ((allL K m f) ++ (R.take j).map ((f : Int) :: ·)).length = (allL K m f).length + j := by rw [List.length_append, List.length_map, List.length_take]; omega
            have HLT := Lib.hid hO.1.lt
            have hji : (j : Int) < (n2 : Int) := by omega
            have hj0 : (0 : Int) ≤ (j : Int) := by omega
            have hwj : IntKind.i64.wrap ((j : Int) + 1) = (j : Int) + 1 := wrap_in (by omega)
            have HLN := Lib.hid hlen
            have hwsz := hXw.size
            have hk2 := hKr.1
            clear hP hO hx hlen hxm hjR' hxl
            go_wp2_with (first
              | (at_builtin; refine wpList_append_fullS _ (by rfl) (.tmp 33) (.tmp 37) 33 (by rfl) 3 i0 (.int .i64 0) 1 8 Tryz.underlying33 hi hz0 hz1 hz2 rfl (by omega) (some ⟨wr.heap.size, 0, none⟩) Au 1 x.length cu (i64l [(f : Int)]) (i64l x) (by rfl) rfl (cells_one1 _ _ _) (HP.out.below (ext_alloc (Below.refl _ _) _)).reads_ (by simp [i64l, Value.oneCell']) (by unfold maxLen; omega) (by omega) ?_; intro ao' cap' w8 g1 g2 g3 g4 g5; have e8 : Ext wr w8 := Ext.trans (ext_alloc (Below.refl _ _) _) g4)
              | (at_builtin; refine wpList_append_mine _ (by rfl) (.tmp 31) (.tmp 39) 56 (by rfl) w.heap.size 33 i1 (.slice none 0 0) 1 24 Tryz.underlying56 hj hy0 hy1 hy2 rfl (by omega) _ _ _ (by rfl) (HO.out.ext (e8.trans (ext_alloc (Below.refl _ _) _))).1 ⟨w8.heap.size, 0, none⟩ 1 1 [.slice ao' (1 + x.length) cap'] (by rfl) rfl (cell_one w8 _ _) (by simp [Value.oneCell']) (by rw [HLN.out]; unfold maxLen; omega) (by rw [HLN.out]; omega) (by have := e8.size; simp; omega) ?_; intro v10 w10 ho10 hg10 hw10))
            have hel : IntsV w8 (.slice ao' (1 + x.length) cap') ((f : Int) :: x) := ⟨ao', cap', by rw [List.length_cons, Nat.add_comm], by rw [List.length_cons]; omega, g2, by rw [List.length_cons, Nat.add_comm]; exact g3⟩
            have hfar : ∀ b', (Value.slice ao' (1 + x.length) cap').ownBlock = some b' → some b' ≠ u5.ownBlock := by
              intro b' hb' he
              have h1 := (HLT.out b' he.symm).2
              cases hao : ao' with
              | none => rw [hao] at hb'; cases hb'
              | some ad =>
                rw [hao] at hb'
                have hb2 : b' = ad.block := by simp [Value.ownBlock] at hb'; exact hb'.symm
                rcases g5 ad hao with h | h
                · injection h with h
                  subst h
                  have h3 : b' = wr.heap.size := hb2
                  omega
                · have : wr.heap.size + 1 ≤ ad.block := by simpa using h
                  omega
            have hnew : New w.heap.size (.slice ao' (1 + x.length) cap') := by
              intro b' hb'
              cases hao : ao' with
              | none => rw [hao] at hb'; cases hb'
              | some ad =>
                rw [hao] at hb'
                have hb2 : b' = ad.block := by simp [Value.ownBlock] at hb'; exact hb'.symm
                rcases g5 ad hao with h | h
                · injection h with h
                  subst h
                  have h3 : b' = wr.heap.size := hb2
                  omega
                · have : wr.heap.size + 1 ≤ ad.block := by simpa using h
                  omega
            have hpush := OwnP.push HO.out (x := (f : Int) :: x) (e8.trans (ext_alloc (Below.refl _ _) (.cells #[.slice ao' (1 + x.length) cap'] 33))) (fun w' hg => ⟨IntsV.grown (hel.below (ext_alloc (Below.refl _ _) _)) hg hfar, hnew⟩) ho10 hg10 hw10
            have hext := OwnP.grow_ext (W := w) HO.out hXw (e8.trans (ext_alloc (Below.refl _ _) (.cells #[.slice ao' (1 + x.length) cap'] 33))) hg10
            have hkept := KeptB.step hKr (e8.trans (ext_alloc (Below.refl _ _) (.cells #[.slice ao' (1 + x.length) cap'] 33))) hg10 hlt
            have hsz8 := e8.size
            have hlt' : ∀ g, v10.ownBlock = some g → g < BW ∨ w2.heap.size ≤ g := fun g hg => by
              rcases hw10 with h | h
              · exact hlt g (h ▸ hg)
              · have h1 := h g hg
                have h2 : w8.heap.size + 1 ≤ g := by simpa using h1
                omega
            have hrow : (allL K m f ++ (R.take j).map ((f : Int) :: ·)) ++ [(f : Int) :: x] = allL K m f ++ (R.take (j + 1)).map ((f : Int) :: ·) := by
              rw [List.take_add_one, HX.out, List.map_append, List.append_assoc]
              rfl
            rw [hrow] at hpush
            have HPU := Lib.hid (show OwnX (PB w.heap.size) 33 w.heap.size w10 v10 (allL K m f ++ (R.take (j + 1)).map ((f : Int) :: ·)) from ⟨_, hpush⟩)
            clear hpush hel hfar hrow g1 g2 g3 g4 g5 ho10 hg10 hw10 hlt hnew
            go_wp2
            go_roundw
            case rel => exact ⟨j + 1, by omega, by go_num, HPU.out, hlt', hkept, hext⟩
            case measure => simp [intOf]; omega
          · obtain rfl : j = n2 := by omega
            have hjj : ¬ ((j : Int) < (j : Int)) := by omega
            rw [HN2.out, List.take_length, ← HAS1.out] at hO
            have HO := Lib.hid (show OwnX (PB w.heap.size) 33 w.heap.size wr u5 (allL K m (f + 1)) from ⟨us, hO⟩)
            clear hO
            go_wp2
            go_roundw
            case rel => first | exact ⟨f + 1, by omega, by go_num, HO.out⟩ | exact ⟨f + 1, by omega, by go_num, HO.out, hXw⟩
            case measure => simp [intOf]; omega
      · obtain rfl : f = m + 1 := by omega
        have hff : ¬ (((m + 1 : Nat) : Int) ≤ (m : Int)) := by omega
        have hff2 : ¬ ((m : Int) + 1 ≤ (m : Int)) := by omega
        obtain ⟨us, hO⟩ := hO
        have hL := hO.lls
        rw [HAL.out] at hL
        obtain ⟨A, c, rfl, _, _⟩ := hL.form
        obtain ⟨n, hn⟩ : ∃ n, n = ((allocs (K + 1) m).map natsS).length := ⟨_, rfl⟩
        rw [← hn] at hL ⊢
        have HL := Lib.hid hL
        have HN := Lib.hid hn
        clear hO hL hn
        go_wp2
        go_ret
        exact ⟨A, n, c, rfl, HN.out, HL.out, hX⟩

end Go.Proofs.YtnedgbebajhcpaaGreatDoor
