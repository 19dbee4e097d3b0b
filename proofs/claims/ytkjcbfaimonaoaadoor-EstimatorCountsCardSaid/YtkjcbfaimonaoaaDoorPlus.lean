/- plus, minus. -/
import Derived.Test.YtkjcbfaimonaoaaDoorMade
set_option linter.unusedVariables false
set_option linter.unusedSimpArgs false
set_option maxRecDepth 100000
namespace Go.Proofs.YtkjcbfaimonaoaaDoor
open Go.RowKit Num

theorem getD_take_succ (l : List Nat) (k : Nat) : val (l.take (k + 1)) = val (l.take k) + 1000000000 ^ k * l.getD k 0 := by
  by_cases hk : k < l.length
  · rw [List.take_succ_eq_append_getElem hk, val_snoc, List.length_take, Nat.min_eq_left (by omega)]
    simp [List.getD, hk]
  · rw [List.take_of_length_le (by omega), List.take_of_length_le (by omega)]
    simp [List.getD, List.getElem?_eq_none (show l.length ≤ k by omega)]

/-- What 'plus' has done behind k rounds. -/
structure PlusAt (xs ys : List Nat) (k : Nat) (zs : List Nat) (c : Nat) : Prop where
  len : zs.length = k
  digs : Digs zs
  small : c ≤ 1
  eq : val zs + 1000000000 ^ k * c = val (xs.take k) + val (ys.take k)

theorem PlusAt.zero (xs ys : List Nat) : PlusAt xs ys 0 [] 0 := ⟨rfl, Digs.nil, by omega, by simp [val]⟩
theorem PlusAt.step {xs ys zs : List Nat} {k c : Nat} (h : PlusAt xs ys k zs c) (hx : Digs xs) (hy : Digs ys) :
    PlusAt xs ys (k + 1) (zs ++ [(xs.getD k 0 + c + ys.getD k 0) % 1000000000]) ((xs.getD k 0 + c + ys.getD k 0) / 1000000000) := by
  obtain ⟨h1, h2, h3, h4⟩ := h
  have h5 := hx.getD k
  have h6 := hy.getD k
  generalize e1 : xs.getD k 0 = x at *
  generalize e2 : ys.getD k 0 = y at *
  refine ⟨by simp [h1], h2.snoc (by omega), by omega, ?_⟩
  rw [getD_take_succ, getD_take_succ, val_snoc, h1, e1, e2, Nat.pow_succ]
  have e : x + c + y = (x + c + y) % 1000000000 + 1000000000 * ((x + c + y) / 1000000000) := by omega
  have e3 : 1000000000 ^ k * (x + c + y) = 1000000000 ^ k * ((x + c + y) % 1000000000) + 1000000000 ^ k * 1000000000 * ((x + c + y) / 1000000000) := by
    rw [Nat.mul_assoc, ← Nat.mul_add, ← e]
  rw [Nat.mul_add, Nat.mul_add] at e3
  omega
theorem PlusAt.done {xs ys zs : List Nat} {c : Nat} (h : PlusAt xs ys xs.length zs c) (hl : ys.length ≤ xs.length) : val (zs ++ [c]) = val xs + val ys := by
  obtain ⟨h1, h2, h3, h4⟩ := h
  rw [val_snoc, h1, h4, List.take_length, List.take_of_length_le hl]


set_option maxHeartbeats 1000000 in
theorem plus_ge {A B : Option Addr} {cap cap' : Nat} {xs ys : List Nat} {w : World} (h2 : xs.length ≤ cap) (h3 : cap ≤ 9223372036854775807) (h4 : Reads w 1 A xs.length (u32s xs))
    (k2 : ys.length ≤ cap') (k3 : cap' ≤ 9223372036854775807) (k4 : Reads w 1 B ys.length (u32s ys)) (hx : Digs xs) (hy : Digs ys) (hlen : ys.length ≤ xs.length) (hbig : xs.length ≤ 2199023255552) :
    Calls Tryd.prog 93 #[.slice A xs.length cap, .slice B ys.length cap'] w (GivesS w fun w' r => CanV w' r (val xs + val ys)) := by
  obtain ⟨i0, hi, hz0, hz1, hz2⟩ := info_parts info_u32
  go_enter Tryd.func93, Tryd.ntmps93
  go_wp2_with (first | (at_make; refine wpList_make_own _ rfl _ _ 28 rfl w.heap.size 70 i0 (.int .u32 0) 1 Tryd.underlying28 hi hz0 hz1 _ _ _ (xs.length + 1) rfl rfl (by omega) ?b1 ?b2 ?b3 ?_) | go_in)
  case b1 => rw [hz2]; omega
  case b2 => unfold maxLen; omega
  case b3 => exact Nat.le_refl _
  intro w1 hown hgrow
  have hb1 : Ext w w1 := (Below.refl _ _).grown hgrow (Nat.le_refl _) (by simp)
  clear hgrow
  go_wp2
  go_loopw [5, 6, 23] (fun v cv i wr => ∃ (k c : Nat) (zs : List Nat), k ≤ xs.length ∧ i = .int .i64 k ∧ v = .slice (some ⟨w.heap.size, 0, none⟩) k (xs.length + 1) ∧ cv = .int .u32 c ∧
      wr.ownsRow w.heap.size 70 1 (.slice (some ⟨w.heap.size, 0, none⟩) k (xs.length + 1)) k (u32s zs) ∧ Ext w wr ∧ PlusAt xs ys k zs c)
    (fun _ _ i _ => xs.length - (intOf i).toNat)
  case atStart => exact ⟨0, 0, [], Nat.zero_le _, rfl, rfl, rfl, hown, hb1, PlusAt.zero xs ys⟩
  case round =>
    obtain ⟨k, c, zs, hk, rfl, rfl, rfl, hown1, hbr, hat⟩ := hrel
    by_cases hlt : k < xs.length
    · have hxk := hx.getD k
      have hyk := hy.getD k
      have hsm := hat.small
      have hs := Lib.hid (hat.step hx hy)
      obtain ⟨ad, u, rfl, hb, hu, hcl⟩ := (h4.below hbr).at_ (k := k) hlt
      have hu2 : u = .int .u32 (xs.getD k 0 : Nat) := by simpa [u32s, List.getD, hlt] using hu.symm
      subst hu2
      clear hu hat
      generalize xs.getD k 0 = x at *
      by_cases hlt2 : k < ys.length
      · obtain ⟨bd, u, rfl, hb2, hu, hcl2⟩ := (k4.below hbr).at_ (k := k) hlt2
        have hu2 : u = .int .u32 (ys.getD k 0 : Nat) := by simpa [u32s, List.getD, hlt2] using hu.symm
        subst hu2
        clear hu
        generalize ys.getD k 0 = y at *
        go_wp2_with (first | (at_builtin; refine wpList_append_fits _ rfl _ _ 28 rfl w.heap.size 70 i0 1 Tryd.underlying28 hi hz1 (w.heap.size) k (xs.length + 1) (u32s zs) rfl (hown1.alloc _) ⟨wr.heap.size, 0, none⟩ 1 1 [.int .u32 (((x : Int) + c + y) % 1000000000)] rfl rfl (cell_one_new _ _ _) (ints_oneCell .u32 [_]) (by omega) ?_) | go_in)
        intro w2 hown2 hgrow2
        have hb2 : Ext w w2 := (hbr.alloc hbr.size _).grown hgrow2 (by have := hbr.size; simp; omega) (by simp)
        clear hgrow2 hown1
        go_wp2
        go_roundw
        case rel => exact ⟨k + 1, _, _, by omega, by go_num, rfl, by go_num, by rw [← u32s_snoc]; exact hown2, hb2, hs.out⟩
        case measure => simp [intOf]; try omega
      · have hy0 : ys.getD k 0 = 0 := by simp [List.getD, List.getElem?_eq_none (show ys.length ≤ k by omega)]
        rw [hy0] at hs
        clear hy0 hyk
        go_wp2_with (first | (at_builtin; refine wpList_append_fits _ rfl _ _ 28 rfl w.heap.size 70 i0 1 Tryd.underlying28 hi hz1 (w.heap.size) k (xs.length + 1) (u32s zs) rfl (hown1.alloc _) ⟨wr.heap.size, 0, none⟩ 1 1 [.int .u32 (((x : Int) + c) % 1000000000)] rfl rfl (cell_one_new _ _ _) (ints_oneCell .u32 [_]) (by omega) ?_) | go_in)
        intro w2 hown2 hgrow2
        have hb2 : Ext w w2 := (hbr.alloc hbr.size _).grown hgrow2 (by have := hbr.size; simp; omega) (by simp)
        clear hgrow2 hown1
        go_wp2
        go_roundw
        case rel => exact ⟨k + 1, _, _, by omega, by go_num, rfl, by go_num, by rw [← u32s_snoc]; exact hown2, hb2, hs.out⟩
        case measure => simp [intOf]; try omega
    · obtain rfl : k = xs.length := by omega
      have hdone := Lib.hid (hat.done (by omega))
      have hsm := hat.small
      have hyl := hat.len
      go_wp2_with (first | (at_builtin; refine wpList_append_fits _ rfl _ _ 28 rfl w.heap.size 70 i0 1 Tryd.underlying28 hi hz1 (w.heap.size) xs.length (xs.length + 1) (u32s zs) rfl (hown1.alloc _) ⟨wr.heap.size, 0, none⟩ 1 1 [.int .u32 (c : Int)] rfl rfl (cell_one_new _ _ _) (ints_oneCell .u32 [_]) (by omega) ?_) | fail)
      intro w2 hown2 hgrow2
      have hb2 : Ext w w2 := (hbr.alloc hbr.size _).grown hgrow2 (by have := hbr.size; simp; omega) (by simp)
      rw [u32s_snoc] at hown2
      clear hgrow2 hown1
      go_wp2_with fail
      refine (trim_u (U32s.of_own hown2 (Nat.le_refl _) (by omega)) (Below.refl _ _) (hat.digs.snoc (by omega))).mono ?_
      rintro e w' ⟨v, rfl, hv, rfl, hob⟩
      rw [hdone.out] at hv
      go_wp2
      go_ret
      exact ⟨_, rfl, hv, hb2, (New.at_ (Nat.le_refl _)).same hob⟩

set_option maxHeartbeats 1000000 in
theorem plus_lt {A B : Option Addr} {cap cap' : Nat} {xs ys : List Nat} {w : World} (h2 : xs.length ≤ cap) (h3 : cap ≤ 9223372036854775807) (h4 : Reads w 1 A xs.length (u32s xs))
    (k2 : ys.length ≤ cap') (k3 : cap' ≤ 9223372036854775807) (k4 : Reads w 1 B ys.length (u32s ys)) (hx : Digs xs) (hy : Digs ys) (hlen : ys.length < xs.length) (hbig : xs.length ≤ 2199023255552) :
    Calls Tryd.prog 93 #[.slice B ys.length cap', .slice A xs.length cap] w (GivesS w fun w' r => CanV w' r (val xs + val ys)) := by
  obtain ⟨i0, hi, hz0, hz1, hz2⟩ := info_parts info_u32
  go_enter Tryd.func93, Tryd.ntmps93
  go_wp2_with (first | (at_make; refine wpList_make_own _ rfl _ _ 28 rfl w.heap.size 70 i0 (.int .u32 0) 1 Tryd.underlying28 hi hz0 hz1 _ _ _ (xs.length + 1) rfl rfl (by omega) ?b1 ?b2 ?b3 ?_) | go_in)
  case b1 => rw [hz2]; omega
  case b2 => unfold maxLen; omega
  case b3 => exact Nat.le_refl _
  intro w1 hown hgrow
  have hb1 : Ext w w1 := (Below.refl _ _).grown hgrow (Nat.le_refl _) (by simp)
  clear hgrow
  go_wp2
  go_loopw [5, 6, 23] (fun v cv i wr => ∃ (k c : Nat) (zs : List Nat), k ≤ xs.length ∧ i = .int .i64 k ∧ v = .slice (some ⟨w.heap.size, 0, none⟩) k (xs.length + 1) ∧ cv = .int .u32 c ∧
      wr.ownsRow w.heap.size 70 1 (.slice (some ⟨w.heap.size, 0, none⟩) k (xs.length + 1)) k (u32s zs) ∧ Ext w wr ∧ PlusAt xs ys k zs c)
    (fun _ _ i _ => xs.length - (intOf i).toNat)
  case atStart => exact ⟨0, 0, [], Nat.zero_le _, rfl, rfl, rfl, hown, hb1, PlusAt.zero xs ys⟩
  case round =>
    obtain ⟨k, c, zs, hk, rfl, rfl, rfl, hown1, hbr, hat⟩ := hrel
    by_cases hlt : k < xs.length
    · have hxk := hx.getD k
      have hyk := hy.getD k
      have hsm := hat.small
      have hs := Lib.hid (hat.step hx hy)
      obtain ⟨ad, u, rfl, hb, hu, hcl⟩ := (h4.below hbr).at_ (k := k) hlt
      have hu2 : u = .int .u32 (xs.getD k 0 : Nat) := by simpa [u32s, List.getD, hlt] using hu.symm
      subst hu2
      clear hu hat
      generalize xs.getD k 0 = x at *
      by_cases hlt2 : k < ys.length
      · obtain ⟨bd, u, rfl, hb2, hu, hcl2⟩ := (k4.below hbr).at_ (k := k) hlt2
        have hu2 : u = .int .u32 (ys.getD k 0 : Nat) := by simpa [u32s, List.getD, hlt2] using hu.symm
        subst hu2
        clear hu
        generalize ys.getD k 0 = y at *
        go_wp2_with (first | (at_builtin; refine wpList_append_fits _ rfl _ _ 28 rfl w.heap.size 70 i0 1 Tryd.underlying28 hi hz1 (w.heap.size) k (xs.length + 1) (u32s zs) rfl (hown1.alloc _) ⟨wr.heap.size, 0, none⟩ 1 1 [.int .u32 (((x : Int) + c + y) % 1000000000)] rfl rfl (cell_one_new _ _ _) (ints_oneCell .u32 [_]) (by omega) ?_) | go_in)
        intro w2 hown2 hgrow2
        have hb2 : Ext w w2 := (hbr.alloc hbr.size _).grown hgrow2 (by have := hbr.size; simp; omega) (by simp)
        clear hgrow2 hown1
        go_wp2
        go_roundw
        case rel => exact ⟨k + 1, _, _, by omega, by go_num, rfl, by go_num, by rw [← u32s_snoc]; exact hown2, hb2, hs.out⟩
        case measure => simp [intOf]; try omega
      · have hy0 : ys.getD k 0 = 0 := by simp [List.getD, List.getElem?_eq_none (show ys.length ≤ k by omega)]
        rw [hy0] at hs
        clear hy0 hyk
        go_wp2_with (first | (at_builtin; refine wpList_append_fits _ rfl _ _ 28 rfl w.heap.size 70 i0 1 Tryd.underlying28 hi hz1 (w.heap.size) k (xs.length + 1) (u32s zs) rfl (hown1.alloc _) ⟨wr.heap.size, 0, none⟩ 1 1 [.int .u32 (((x : Int) + c) % 1000000000)] rfl rfl (cell_one_new _ _ _) (ints_oneCell .u32 [_]) (by omega) ?_) | go_in)
        intro w2 hown2 hgrow2
        have hb2 : Ext w w2 := (hbr.alloc hbr.size _).grown hgrow2 (by have := hbr.size; simp; omega) (by simp)
        clear hgrow2 hown1
        go_wp2
        go_roundw
        case rel => exact ⟨k + 1, _, _, by omega, by go_num, rfl, by go_num, by rw [← u32s_snoc]; exact hown2, hb2, hs.out⟩
        case measure => simp [intOf]; try omega
    · obtain rfl : k = xs.length := by omega
      have hdone := Lib.hid (hat.done (by omega))
      have hsm := hat.small
      have hyl := hat.len
      go_wp2_with (first | (at_builtin; refine wpList_append_fits _ rfl _ _ 28 rfl w.heap.size 70 i0 1 Tryd.underlying28 hi hz1 (w.heap.size) xs.length (xs.length + 1) (u32s zs) rfl (hown1.alloc _) ⟨wr.heap.size, 0, none⟩ 1 1 [.int .u32 (c : Int)] rfl rfl (cell_one_new _ _ _) (ints_oneCell .u32 [_]) (by omega) ?_) | fail)
      intro w2 hown2 hgrow2
      have hb2 : Ext w w2 := (hbr.alloc hbr.size _).grown hgrow2 (by have := hbr.size; simp; omega) (by simp)
      rw [u32s_snoc] at hown2
      clear hgrow2 hown1
      go_wp2_with fail
      refine (trim_u (U32s.of_own hown2 (Nat.le_refl _) (by omega)) (Below.refl _ _) (hat.digs.snoc (by omega))).mono ?_
      rintro e w' ⟨v, rfl, hv, rfl, hob⟩
      rw [hdone.out] at hv
      go_wp2
      go_ret
      exact ⟨_, rfl, hv, hb2, (New.at_ (Nat.le_refl _)).same hob⟩

theorem plus_any {u v : Value} {a b : Nat} {w : World} (hu : CanV w u a) (hv : CanV w v b) (ha : (limbsOf a).length ≤ 2199023255552) (hb : (limbsOf b).length ≤ 2199023255552) :
    Calls Tryd.prog 93 #[u, v] w (GivesS w fun w' r => CanV w' r (a + b)) := by
  obtain ⟨A, cap, rfl, h2, h3, h4⟩ := hu
  obtain ⟨B, cap', rfl, k2, k3, k4⟩ := hv
  by_cases h : (limbsOf a).length < (limbsOf b).length
  · have := plus_lt k2 k3 k4 h2 h3 h4 (limbsOf_digs b) (limbsOf_digs a) h hb
    rwa [val_limbsOf, val_limbsOf, Nat.add_comm] at this
  · have := plus_ge h2 h3 h4 k2 k3 k4 (limbsOf_digs a) (limbsOf_digs b) (by omega) ha
    rwa [val_limbsOf, val_limbsOf] at this

end Go.Proofs.YtkjcbfaimonaoaaDoor
