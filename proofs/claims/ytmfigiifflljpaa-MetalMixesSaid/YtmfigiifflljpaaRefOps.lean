/- ref01: Norm, Of. ref01: Of, Cmp, Add, Sub, Mul. -/
import Derived.Test.YtmfigiifflljpaaNatural
import Derived.Test.YtmfigiifflljpaaMem
set_option linter.unusedVariables false
set_option linter.unusedSimpArgs false
set_option maxRecDepth 100000
namespace Go.Proofs.Ytmfigiifflljpaa
open Go.RowKit Num

/-- A box of one cell and a box for the answer. -/
structure Box1 (w W0 : World) (x : Value) : Prop where
  ext : Ext w W0
  size : W0.heap.size = w.heap.size + 1 + 1
  rd : ∀ w', Below (w.heap.size + 1) W0 w' → w'.cell? ⟨w.heap.size, 0, none⟩ = some x
  zc : ∀ w', Ext W0 w' → w'.cell? ⟨w.heap.size + 1, 0, none⟩ = some (.slice none 0 0) ∧ w'.frozen? ⟨w.heap.size + 1, 0, none⟩ = false

theorem box1 (w : World) (x : Value) (t : TypeId) : Box1 w ((w.alloc (.cells #[x] t)).alloc (.cells #[.slice none 0 0] t)) x := by
  refine ⟨((Below.refl _ _).alloc (Nat.le_refl _) _).alloc (by simp) _, by simp, ?_, ?_⟩ <;> intro w' h
  · rw [h.cell (by simp)]; simp [go_sem, World.cell?_alloc_old]
  · constructor
    · rw [h.cell (by simp)]; simp [go_sem]
    · rw [h.frozen (by simp)]; simp [go_sem]

/-- What 'Norm' has done behind k rounds. -/
structure NormAt (xs : List Nat) (k : Nat) (ys : List Nat) (c : Nat) : Prop where
  len : ys.length = k
  digs : Digs ys
  small : c ≤ 8
  eq : val ys + 1000000000 ^ k * c = val (xs.take k)
  few : k ≤ xs.length + 1
  last : xs.length < k → c = 0

theorem NormAt.start (xs : List Nat) : NormAt xs 0 [] 0 := ⟨rfl, Digs.nil, by omega, by simp [val], by omega, fun _ => rfl⟩
theorem NormAt.step {xs ys : List Nat} {k c : Nat} (h : NormAt xs k ys c) (hx : xs.getD k 0 < 4294967296) (hk : k < xs.length ∨ 0 < c) :
    NormAt xs (k + 1) (ys ++ [(c + xs.getD k 0) % 1000000000]) ((c + xs.getD k 0) / 1000000000) := by
  obtain ⟨h1, h2, h3, h4, h5, h6⟩ := h
  have hk' : k ≤ xs.length := by
    rcases Nat.lt_or_ge xs.length k with h | h
    · have := h6 h; omega
    · exact h
  refine ⟨by simp [h1], h2.snoc (by omega), by omega, ?_, by omega, ?_⟩
  · rw [getD_take_succ, val_snoc, ← h4, h1, Nat.pow_succ, Nat.add_assoc, Nat.add_assoc, Nat.mul_assoc, ← Nat.mul_add, ← Nat.mul_add]
    congr 2
    omega
  · intro h
    have : xs.getD k 0 = 0 := by simp [List.getD, List.getElem?_eq_none (show xs.length ≤ k by omega)]
    rw [this]
    omega
theorem NormAt.done {xs ys : List Nat} {k : Nat} (h : NormAt xs k ys 0) (hk : xs.length ≤ k) : val ys = val xs := by
  have := h.eq
  rw [List.take_of_length_le hk] at this
  omega

theorem own_slice {w : World} {base : Nat} {e : TypeId} {v : Value} {n : Nat} {xs : List Value} (h : w.ownsRow base e 1 v n xs) :
    ∃ A c, v = .slice A n c ∧ n ≤ c ∧ c ≤ 9223372036854775807 := by
  rcases h.2 with ⟨rfl, rfl⟩ | ⟨g, cap, cur, rfl, _, _, hc, hm, _, _⟩
  · exact ⟨none, 0, rfl, Nat.le_refl _, by omega⟩
  · exact ⟨_, cap, rfl, hc, hm⟩

theorem own_cap {w : World} {base : Nat} {e : TypeId} {A : Option Addr} {n c : Nat} {xs : List Value} (h : w.ownsRow base e 1 (.slice A n c) n xs) : n ≤ c ∧ c ≤ 9223372036854775807 := by
  obtain ⟨_, _, e, h1, h2⟩ := own_slice h
  injection e with _ _ e
  subst e
  exact ⟨h1, h2⟩

set_option maxHeartbeats 2000000 in
theorem norm_any {A : Option Addr} {cap : Nat} {xs : List Nat} {w : World} (h2 : xs.length ≤ cap) (h4 : Reads w 1 A xs.length (u32s xs)) (hx : ∀ x ∈ xs, x < 4294967296) (hn : xs.length ≤ 17592186044416) :
    Calls Try.prog 80 #[.agg #[.slice A xs.length cap]] w (GivesN w (val xs)) := by
  obtain ⟨i0, hi, hz0, hz1, hz2⟩ := info_parts info_u32
  go_enter Try.func80, Try.ntmps80
  go_wp2
  have hB := box1 w (.slice A xs.length cap) 32
  generalize (w.alloc (.cells #[.slice A xs.length cap] 32)).alloc (.cells #[.slice none 0 0] 32) = W0 at *
  have hr0 := h4.below hB.ext
  have HB := Lib.hid hB
  clear hB h4
  go_loopw [3, 4, 5] (fun v cv iv wr => ∃ (k c : Nat) (ys : List Nat) (A' : Option Addr) (c' : Nat), iv = .int .i64 k ∧ v = .slice A' k c' ∧ cv = .int .u64 c ∧ wr.ownsRow (w.heap.size + 1 + 1) 76 1 (.slice A' k c') k (u32s ys) ∧ Ext W0 wr ∧ NormAt xs k ys c)
    (fun _ _ iv _ => xs.length + 1 - (intOf iv).toNat)
  case atStart => exact ⟨0, 0, [], none, 0, rfl, rfl, rfl, World.ownsRow_nil _ _ _ _, Below.refl _ _, NormAt.start xs⟩
  case round =>
    obtain ⟨k, c, ys, A', c', rfl, rfl, rfl, hown, hbr, hat⟩ := hrel
    have hxc := HB.out.rd wr (hbr.mono (by have := HB.out.size; omega))
    have hWs : w.heap.size + 1 + 1 ≤ wr.heap.size := by have := HB.out.size; have := hbr.size; omega
    by_cases hlt : k < xs.length
    · have hxk : xs.getD k 0 < 4294967296 := by simp only [List.getD, List.getElem?_eq_getElem hlt, Option.getD_some]; exact hx _ (List.getElem_mem hlt)
      have hsm := hat.small
      have hst := Lib.hid (hat.step hxk (.inl hlt))
      obtain ⟨ad, u, rfl, hb, hu, hcl⟩ := (hr0.below hbr).at_ (k := k) hlt
      rw [u32s_get _ _ hlt] at hu
      cases hu
      clear hat
      generalize xs.getD k 0 = x at *
      go_wp2_with (first | (at_builtin; refine wpList_append_own _ rfl _ _ 30 rfl (w.heap.size + 1 + 1) 76 i0 (.int .u32 0) 1 4 Try.underlying30 hi hz0 hz1 hz2 rfl (by omega) (.slice A' k c') k (u32s ys) rfl (hown.alloc _) ⟨wr.heap.size, 0, none⟩ 1 1 [.int .u32 (((c : Int) + x) % 1000000000)] rfl rfl (cell_one_new _ _ _) (ints_oneCell .u32 [_]) (by unfold maxLen; omega) (by omega) (by simp; omega) ?_) | fail)
      intro v2 w2 hown2 hgrow2 _
      have hb2 : Ext W0 w2 := (hbr.alloc hbr.size _).grown hgrow2 (by have := hbr.size; simp; omega) (fun b hb => by have := (hown.lt b hb).1; have := HB.out.size; omega)
      clear hgrow2 hown
      obtain ⟨A2, c2, rfl, _, _⟩ := own_slice hown2
      go_wp2
      go_roundw
      case rel =>
        refine ⟨k + 1, _, _, A2, c2, by go_num, rfl, by go_num, ?_, hb2, hst.out⟩
        rw [← u32s_snoc]; exact hown2
      case measure => simp [intOf]; try omega
    · by_cases hc0 : 0 < c
      · have hx0 : xs.getD k 0 = 0 := by simp [List.getD, List.getElem?_eq_none (show xs.length ≤ k by omega)]
        have hsm := hat.small
        have hfew := hat.few
        have hlast : ¬ xs.length < k := fun h => by have := hat.last h; omega
        have hst := hat.step (by rw [hx0]; omega) (.inr hc0)
        rw [hx0] at hst
        have HS := Lib.hid hst
        clear hat hst hx0
        go_wp2_with (first | (at_builtin; refine wpList_append_own _ rfl _ _ 30 rfl (w.heap.size + 1 + 1) 76 i0 (.int .u32 0) 1 4 Try.underlying30 hi hz0 hz1 hz2 rfl (by omega) (.slice A' k c') k (u32s ys) rfl (hown.alloc _) ⟨wr.heap.size, 0, none⟩ 1 1 [.int .u32 ((c : Int) % 1000000000)] rfl rfl (cell_one_new _ _ _) (ints_oneCell .u32 [_]) (by unfold maxLen; omega) (by omega) (by simp; omega) ?_) | fail)
        intro v2 w2 hown2 hgrow2 _
        have hb2 : Ext W0 w2 := (hbr.alloc hbr.size _).grown hgrow2 (by have := hbr.size; simp; omega) (fun b hb => by have := (hown.lt b hb).1; have := HB.out.size; omega)
        clear hgrow2 hown
        obtain ⟨A2, c2, rfl, _, _⟩ := own_slice hown2
        go_wp2
        go_roundw
        case rel =>
          refine ⟨k + 1, _, _, A2, c2, by go_num, rfl, by go_num, ?_, hb2, HS.out⟩
          rw [← u32s_snoc]; exact hown2
        case measure => simp [intOf]; try omega
      · obtain rfl : c = 0 := by omega
        have hdone := Lib.hid (hat.done (by omega))
        have hlen := hat.len
        have hd := hat.digs
        obtain ⟨z1, zf1⟩ := HB.out.zc _ hbr
        have hu := U32s.of_row hown
        have hnew : New (w.heap.size + 1 + 1) (.slice A' k c') := fun b hb => (hown.lt b hb).1
        obtain ⟨hcc1, hcc2⟩ := own_cap hown
        have hrd : Reads wr 1 A' k (u32s ys) := Reads.of_own hown
        clear hat hown
        subst hlen
        go_wp2
        go_loop [3] (fun v => ∃ j : Nat, j ≤ ys.length ∧ v = .slice A' j c' ∧ trimL (ys.take j) = trimL ys) (fun v => lenOf v)
        case atStart => exact ⟨ys.length, Nat.le_refl _, rfl, by rw [List.take_length]⟩
        case round =>
          obtain ⟨j, hj, rfl, ht⟩ := hrel
          have HF : Hid (trimL ys = limbsOf (val xs)) := Lib.hid (by rw [trimL_canon hd, hdone.out])
          have fin : ∀ j, (trimL ys).length = j → CanV (wr.setCell ⟨w.heap.size + 1, 0, none⟩ (.slice A' j c')) (.slice A' j c') (val xs) := by
            intro j hj
            subst hj
            unfold CanV
            rw [← HF.out]
            have hle := trimL_length_le ys
            have h5 := hrd.take_ hle
            rw [u32s_take, ← trimL_prefix] at h5
            have h6 : U32s wr (.slice A' (trimL ys).length c') (trimL ys) := ⟨A', c', rfl, by omega, hcc2, h5⟩
            exact h6.setNew (B := w.heap.size + 1 + 1) (fun b hb => hnew b (by cases A' <;> exact hb)) (Nat.lt_succ_self _) _
          have fin2 : ∀ j, (trimL ys).length = j → GivesN w (val xs) (.returned (.agg #[.slice A' j c'])) (wr.setCell ⟨w.heap.size + 1, 0, none⟩ (.slice A' j c')) := fun j hj =>
            ⟨_, _, _, rfl, fin j hj, (HB.out.ext.trans hbr).setCell (by show w.heap.size ≤ w.heap.size + 1; omega) _, fun b hb => by have := hnew b (by cases A' <;> exact hb); omega⟩
          have FIN := Lib.hid fin2
          clear fin fin2
          cases j with
          | zero =>
            go_wp2
            refine bodyPost_ret (v := .agg #[.slice A' 0 c']) (by simp [results, Try.results80, go_sem, World.cell?_setCell_same _ _ _ z1]) rfl ?_
            exact FIN.out 0 (by rw [← ht]; rfl)
          | succ j =>
            obtain ⟨ad, u, rfl, hb, hu, hcell⟩ := hrd.at_ (k := j) (by omega)
            rw [u32s_get _ _ (by omega)] at hu
            cases hu
            have hgd : ys.getD j 0 = ys[j] := by simp [List.getD, show j < ys.length by omega]
            rw [hgd] at hcell
            by_cases h0 : ys[j] = 0
            · have hb0 : ((ys[j] : Int) == 0) = true := by simp [h0]
              go_wp2
              go_round
              case rel => exact ⟨j, by omega, by go_num, by rw [← ht, trimL_take_zero ys j (by omega) h0]⟩
              case measure => simp [lenOf]
            · have hb0 : ((ys[j] : Int) == 0) = false := by simpa using h0
              go_wp2
              refine bodyPost_ret (v := .agg #[.slice (some ad) (j + 1) c']) (by simp [results, Try.results80, go_sem, World.cell?_setCell_same _ _ _ z1]) rfl ?_
              exact FIN.out (j + 1) (by rw [← ht, trimL_take_pos ys j (by omega) h0])

theorem norm_n {x : Value} {n : Nat} {w : World} (hx : NatV w x n) : Calls Try.prog 80 #[.agg #[x]] w (GivesN w n) := by
  obtain ⟨xs, ⟨A, cap, rfl, h2, h3, h4⟩, hx, hl, rfl⟩ := hx
  exact norm_any h2 h4 hx (by omega)

end Go.Proofs.Ytmfigiifflljpaa
namespace Go.Proofs.Ytmfigiifflljpaa
open Go.RowKit Num

theorem GivesN.form {w : World} {n : Nat} {e : Ending} {w' : World} (h : GivesN w n e w') : ∃ A c, e = .returned (.agg #[.slice A (limbsOf n).length c]) ∧ CanV w' (.slice A (limbsOf n).length c) n ∧ Ext w w' ∧ New w.heap.size (.slice A (limbsOf n).length c) := by
  obtain ⟨A, k, c, rfl, h1, h2, h3⟩ := h
  obtain ⟨A', c', e, _, _, _⟩ := id h1
  injection e with e1 e2 e3
  subst e2
  exact ⟨A, c, rfl, h1, h2, h3⟩

set_option maxHeartbeats 1000000 in
theorem rcmp_n {x y : Value} {a b : Nat} {w : World} (hx : NatV w x a) (hy : NatV w y b) :
    Calls Try.prog 61 #[.agg #[x], .agg #[y]] w (fun e w' => e = .returned (.int .i64 (cmpN a b)) ∧ Ext w w') := by
  go_enter Try.func61, Try.ntmps61
  go_upto_region 1 with (fail)
  have hB0 : Boxes w ((w.alloc (.cells #[x] 32)).alloc (.cells #[y] 32)) [[x], [y]] := ((Boxes.nil_ w).alloc rfl [x] 32).alloc (by simp) [y] 32
  generalize (w.alloc (.cells #[x] 32)).alloc (.cells #[y] 32) = W0 at *
  have hx0 : NatV W0 x a := hx.below hB0.ext
  have HB0 := Lib.hid hB0
  obtain ⟨cx0, fx0⟩ : W0.cell? ⟨w.heap.size, 0, none⟩ = some x ∧ W0.frozen? ⟨w.heap.size, 0, none⟩ = false := hB0.cell 0 _ 0 _ rfl rfl
  clear hB0
  go_wp2_with fail
  refine (norm_n hx0).mono ?_
  intro e w1 hg
  obtain ⟨A1, c1, rfl, h1, x1, n1⟩ := hg.form
  clear hg
  have hB1 := HB0.out.below x1
  obtain ⟨cx1, fx1⟩ : w1.cell? ⟨w.heap.size, 0, none⟩ = some x ∧ w1.frozen? ⟨w.heap.size, 0, none⟩ = false := hB1.cell 0 _ 0 _ rfl rfl
  obtain ⟨cy1, fy1⟩ : w1.cell? ⟨w.heap.size + 1, 0, none⟩ = some y ∧ w1.frozen? ⟨w.heap.size + 1, 0, none⟩ = false := hB1.cell 1 _ 0 _ rfl rfl
  have HB1 := Lib.hid hB1
  clear hB1
  go_wp2_with fail
  have hB2 : Boxes w (w1.setCell ⟨w.heap.size, 0, none⟩ (.slice A1 (limbsOf a).length c1)) [[.slice A1 (limbsOf a).length c1], [y]] := HB1.out.set 0 0 _
  have hs0 : w.heap.size + 2 ≤ W0.heap.size := HB0.out.size
  have h1' := U32s.setNew (p := ⟨w.heap.size, 0, none⟩) h1 n1 (by show w.heap.size < _; omega) (.slice A1 (limbsOf a).length c1)
  have hs1 : w.heap.size + 2 ≤ (w1.setCell ⟨w.heap.size, 0, none⟩ (.slice A1 (limbsOf a).length c1)).heap.size := hB2.size
  clear cx0 fx0 cx1 fx1 cy1 fy1 HB1
  generalize w1.setCell ⟨w.heap.size, 0, none⟩ (.slice A1 (limbsOf a).length c1) = W1 at *
  obtain ⟨cy2, fy2⟩ : W1.cell? ⟨w.heap.size + 1, 0, none⟩ = some y ∧ W1.frozen? ⟨w.heap.size + 1, 0, none⟩ = false := hB2.cell 1 _ 0 _ rfl rfl
  have hy1 : NatV W1 y b := hy.below hB2.ext
  have HB2 := Lib.hid hB2
  clear hB2
  refine (norm_n hy1).mono ?_
  intro e w3 hg
  obtain ⟨A2, c2, rfl, h2, x3, n2⟩ := hg.form
  clear hg
  have hB3 := HB2.out.below x3
  obtain ⟨cy3, fy3⟩ : w3.cell? ⟨w.heap.size + 1, 0, none⟩ = some y ∧ w3.frozen? ⟨w.heap.size + 1, 0, none⟩ = false := hB3.cell 1 _ 0 _ rfl rfl
  have hB4 : Boxes w (w3.setCell ⟨w.heap.size + 1, 0, none⟩ (.slice A2 (limbsOf b).length c2)) [[.slice A1 (limbsOf a).length c1], [.slice A2 (limbsOf b).length c2]] := hB3.set 1 0 _
  have n1' : New (w.heap.size + 2) (.slice A1 (limbsOf a).length c1) := n1.mono hs0
  have n2' : New (w.heap.size + 2) (.slice A2 (limbsOf b).length c2) := n2.mono hs1
  have h1'' := U32s.setNew (p := ⟨w.heap.size + 1, 0, none⟩) (CanV.below h1' x3) n1' (by show w.heap.size + 1 < _; omega) (.slice A2 (limbsOf b).length c2)
  have h2'' := U32s.setNew (p := ⟨w.heap.size + 1, 0, none⟩) h2 n2' (by show w.heap.size + 1 < _; omega) (.slice A2 (limbsOf b).length c2)
  clear hB3 cy2 fy2 h1' h2 h1
  go_upto_region 3 with (fail)
  generalize w3.setCell ⟨w.heap.size + 1, 0, none⟩ (.slice A2 (limbsOf b).length c2) = W2 at *
  have h1' : CanV W2 (.slice A1 (limbsOf a).length c1) a := h1''
  have h2' : CanV W2 (.slice A2 (limbsOf b).length c2) b := h2''
  clear h1'' h2'' n1 n2 hs0 hs1 x1 x3 cy3 fy3 hx0 hy1 HB0 HB2 hx hy
  clear w3 W1 w1 W0
  obtain ⟨cx, fx⟩ : W2.cell? ⟨w.heap.size, 0, none⟩ = some (.slice A1 (limbsOf a).length c1) ∧ W2.frozen? ⟨w.heap.size, 0, none⟩ = false := hB4.cell 0 _ 0 _ rfl rfl
  obtain ⟨cy, fy⟩ : W2.cell? ⟨w.heap.size + 1, 0, none⟩ = some (.slice A2 (limbsOf b).length c2) ∧ W2.frozen? ⟨w.heap.size + 1, 0, none⟩ = false := hB4.cell 1 _ 0 _ rfl rfl
  have hE : Ext w W2 := hB4.ext
  have HB := Lib.hid hB4
  clear hB4 fx fy
  obtain ⟨A, cap, e, q2, q3, q4⟩ := h1'
  injection e with e1 e2 e3
  subst e1 e3
  obtain ⟨B, cap', e, k2, k3, k4⟩ := h2'
  injection e with e1 e2' e3
  subst e1 e3
  clear e2 e2'
  have da := limbsOf_digs a
  have db := limbsOf_digs b
  have va := val_limbsOf a
  have vb := val_limbsOf b
  have L1 := @cmpN_len a b
  have L2 := @cmpN_len' a b
  generalize limbsOf a = xs at *
  generalize limbsOf b = ys at *
  by_cases hlt : xs.length < ys.length
  · have H := Lib.hid (L1 hlt)
    have hb : ((xs.length : Int) != (ys.length : Int)) = true := by rw [bne_iff_ne]; omega
    clear L1 L2 va vb
    go_wp2
    go_ret
    exact ⟨ret_int H.out.symm, hE⟩
  by_cases hgt : ys.length < xs.length
  · have H := Lib.hid (L2 hgt)
    have hb : ((xs.length : Int) != (ys.length : Int)) = true := by rw [bne_iff_ne]; omega
    clear L1 L2 va vb
    go_wp2
    go_ret
    exact ⟨ret_int H.out.symm, hE⟩
  have hl : xs.length = ys.length := by omega
  have HL := Lib.hid hl
  clear L1 L2 hlt hgt hl
  have hb : ((xs.length : Int) != (ys.length : Int)) = false := by rw [bne_eq_false_iff_eq]; have := HL.out; omega
  go_wp2
  go_loopw [5] (fun i wr => ∃ k : Nat, k ≤ xs.length ∧ i = .int .i64 ((k : Int) - 1) ∧ xs.drop k = ys.drop k ∧ Ext W2 wr) (fun i _ => (intOf i + 1).toNat)
  case atStart => exact ⟨xs.length, Nat.le_refl _, rfl, by rw [List.drop_of_length_le (Nat.le_refl _), List.drop_of_length_le (by have := HL.out; omega)], Below.refl _ _⟩
  case round =>
    obtain ⟨k, hk, rfl, hd, hx⟩ := hrel
    have hBr := HB.out.below hx
    have cxr : wr.cell? ⟨w.heap.size, 0, none⟩ = some (.slice A1 xs.length c1) := (hBr.cell 0 _ 0 _ rfl rfl).1
    have cyr : wr.cell? ⟨w.heap.size + 1, 0, none⟩ = some (.slice A2 ys.length c2) := (hBr.cell 1 _ 0 _ rfl rfl).1
    clear hBr cx cy
    cases k with
    | zero =>
      have he : xs = ys := by simpa using hd
      have hab : cmpN a b = 0 := by rw [← va, ← vb, he]; simp [cmpN]
      have H := Lib.hid hab
      clear va vb hab he hd
      go_wp2
      go_ret
      exact ⟨ret_int H.out.symm, hE.trans hx⟩
    | succ k =>
      have hl := HL.out
      have hkx : k < xs.length := by omega
      have hky : k < ys.length := by omega
      obtain ⟨ad, u, rfl, hb1, hu1, hc1⟩ := (q4.below hx).at_ (k := k) (by omega)
      obtain ⟨bd, v, rfl, hb2, hv1, hc2⟩ := (k4.below hx).at_ (k := k) (by omega)
      have hu2 : u = .int .u32 (xs[k] : Int) := by simpa [u32s, hkx] using hu1.symm
      have hv2 : v = .int .u32 (ys[k] : Int) := by simpa [u32s, hky] using hv1.symm
      subst hu2 hv2
      clear hu1 hv1 hl
      obtain ⟨x, hxx⟩ : ∃ x, x = xs[k] := ⟨_, rfl⟩
      obtain ⟨y, hyy⟩ : ∃ y, y = ys[k] := ⟨_, rfl⟩
      rw [← hxx] at hc1
      rw [← hyy] at hc2
      have HX := Lib.hid hxx
      have HY := Lib.hid hyy
      have HD := Lib.hid hd
      clear hxx hyy hd
      by_cases hlt : x < y
      · have h5 : val xs < val ys := val_drop_lt da db HL.out k hkx HD.out (by rw [← HX.out, ← HY.out]; exact hlt)
        have hab : cmpN a b = -1 := by rw [← va, ← vb]; simp [cmpN, h5]
        have H := Lib.hid hab
        have hlt' : (x : Int) < y := by omega
        clear va vb hab h5
        go_wp2
        go_quiet (fail)
        go_wp2
        go_ret
        exact ⟨ret_int H.out.symm, hE.trans (hx.drewN _)⟩
      · by_cases hgt : y < x
        · have h5 : val ys < val xs := val_drop_lt db da HL.out.symm k hky HD.out.symm (by rw [← HX.out, ← HY.out]; omega)
          have hab : cmpN a b = 1 := by rw [← va, ← vb]; simp [cmpN, h5, Nat.lt_asymm h5]
          have H := Lib.hid hab
          have hgt' : (y : Int) < x := by omega
          clear va vb hab h5
          go_wp2
          go_quiet (fail)
          go_wp2
          go_quiet (fail)
          go_wp2
          go_ret
          exact ⟨ret_int H.out.symm, hE.trans ((hx.drewN _).drewN _)⟩
        · have hxy : x = y := by omega
          subst hxy
          clear hlt hgt
          go_wp2
          go_quiet (fail)
          go_wp2
          go_quiet (fail)
          go_wp2
          go_roundw
          case rel => exact ⟨k, by omega, by go_num, by rw [List.drop_eq_getElem_cons hkx, List.drop_eq_getElem_cons hky, HD.out, ← HX.out, ← HY.out], hx.drewN _⟩
          case measure => simp [intOf]; try omega

set_option maxHeartbeats 1000000 in
theorem rof_n {n : Nat} {w : World} (hn : n < 18446744073709551616) :
    Calls Try.prog 82 #[.int .u64 n] w (GivesN w n) := by
  have hn' : (n : Int) < 18446744073709551616 := by omega
  go_enter Try.func82, Try.ntmps82
  go_wp2_with fail
  have hd := ofLimbs_digs hn
  have hv := ofLimbs_val n
  have hu : U32s ((w.alloc (.cells #[.slice none 0 0] 32)).alloc (.cells #[.int .u32 ((n : Int) % 1000000000), .int .u32 ((n : Int) / 1000000000 % 1000000000), .int .u32 ((n : Int) / 1000000000 / 1000000000)] 76))
      (.slice (some ⟨w.heap.size + 1, 0, none⟩) 3 3) [n % 1000000000, n / 1000000000 % 1000000000, n / 1000000000 / 1000000000] := by
    refine U32s.of_own (base := w.heap.size) (e := 76) ?_ (Nat.le_refl _) (by omega)
    have := World.ownsRow_lit (base := w.heap.size) (e := 76) (size := 1) (w.alloc (.cells #[.slice none 0 0] 32)) #[.int .u32 ((n : Int) % 1000000000), .int .u32 ((n : Int) / 1000000000 % 1000000000), .int .u32 ((n : Int) / 1000000000 / 1000000000)] 3 (by simp) (by unfold maxLen; omega) rfl
    simpa [u32s] using this
  have hB : Boxes w (w.alloc (.cells #[.slice none 0 0] 32)) [[.slice none 0 0]] := (Boxes.nil_ w).alloc rfl [.slice none 0 0] 32
  have hB0 : Boxes w ((w.alloc (.cells #[.slice none 0 0] 32)).alloc (.cells #[.int .u32 ((n : Int) % 1000000000), .int .u32 ((n : Int) / 1000000000 % 1000000000), .int .u32 ((n : Int) / 1000000000 / 1000000000)] 76)) [[.slice none 0 0]] := hB.below ((Below.refl _ _).alloc (Nat.le_refl _) _)
  clear hB
  have hN : NatV ((w.alloc (.cells #[.slice none 0 0] 32)).alloc (.cells #[.int .u32 ((n : Int) % 1000000000), .int .u32 ((n : Int) / 1000000000 % 1000000000), .int .u32 ((n : Int) / 1000000000 / 1000000000)] 76)) (.slice (some ⟨w.heap.size + 1, 0, none⟩) 3 3) n :=
    ⟨_, hu, fun x hx => by have := hd x hx; omega, by simp, hv⟩
  clear hu hd hv
  generalize (w.alloc (.cells #[.slice none 0 0] 32)).alloc (.cells #[.int .u32 ((n : Int) % 1000000000), .int .u32 ((n : Int) / 1000000000 % 1000000000), .int .u32 ((n : Int) / 1000000000 / 1000000000)] 76) = W0 at *
  refine (norm_n hN).mono ?_
  rintro e w1 ⟨A1, k1, c1, rfl, h1, x1, n1⟩
  have hB1 := hB0.below x1
  obtain ⟨z1, zf1⟩ : w1.cell? ⟨w.heap.size, 0, none⟩ = some (.slice none 0 0) ∧ w1.frozen? ⟨w.heap.size, 0, none⟩ = false := hB1.cell 0 _ 0 _ rfl rfl
  have hs0 : w.heap.size + 1 ≤ W0.heap.size := hB0.size
  have hE := hB1.ext
  clear hB0 hB1
  go_wp2
  refine bodyPost_ret (v := .agg #[.slice A1 k1 c1]) (by simp [results, Try.results82, go_sem, World.cell?_setCell_same _ _ _ z1]) rfl ?_
  exact ⟨_, _, _, rfl, U32s.setNew h1 n1 (by show w.heap.size < _; omega) _, hE.setCell (Nat.le_refl _) _, n1.mono (by omega)⟩

end Go.Proofs.Ytmfigiifflljpaa
