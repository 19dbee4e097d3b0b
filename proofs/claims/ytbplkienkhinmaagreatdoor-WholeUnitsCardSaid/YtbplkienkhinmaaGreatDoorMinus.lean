/- plus, minus. minus. times. short, slices.Clone. -/
import Derived.Test.YtbplkienkhinmaaGreatDoorLimbs
set_option linter.unusedVariables false
set_option linter.unusedSimpArgs false
set_option maxRecDepth 100000
namespace Go.Proofs.YtbplkienkhinmaaGreatDoor
open Go.RowKit Num

theorem getD_take_succ (l : List Nat) (k : Nat) : val (l.take (k + 1)) = val (l.take k) + 1000000000 ^ k * l.getD k 0 := by
  by_cases hk : k < l.length
  · rw [List.take_succ_eq_append_getElem hk, val_snoc, List.length_take, Nat.min_eq_left (by omega)]
    simp [List.getD, hk]
  · rw [List.take_of_length_le (by omega), List.take_of_length_le (by omega)]
    simp [List.getD, List.getElem?_eq_none (show l.length ≤ k by omega)]

/-- What 'plus' has done behind k rounds. -/
structure PlusAt (xs ys : List Nat) (k : Nat) (zs : List Nat) (c : Nat) : Prop where
  len : zs.length = k
  digs : Digs zs
  small : c ≤ 1
  eq : val zs + 1000000000 ^ k * c = val (xs.take k) + val (ys.take k)

theorem PlusAt.zero (xs ys : List Nat) : PlusAt xs ys 0 [] 0 := ⟨rfl, Digs.nil, by omega, by simp [val]⟩
theorem PlusAt.step {xs ys zs : List Nat} {k c : Nat} (h : PlusAt xs ys k zs c) (hx : Digs xs) (hy : Digs ys) :
    PlusAt xs ys (k + 1) (zs ++ [(xs.getD k 0 + c + ys.getD k 0) % 1000000000]) ((xs.getD k 0 + c + ys.getD k 0) / 1000000000) := by
  obtain ⟨h1, h2, h3, h4⟩ := h
  have h5 := hx.getD k
  have h6 := hy.getD k
  generalize e1 : xs.getD k 0 = x at *
  generalize e2 : ys.getD k 0 = y at *
  refine ⟨by simp [h1], h2.snoc (by omega), by omega, ?_⟩
  rw [getD_take_succ, getD_take_succ, val_snoc, h1, e1, e2, Nat.pow_succ]
  have e : x + c + y = (x + c + y) % 1000000000 + 1000000000 * ((x + c + y) / 1000000000) := by omega
  have e3 : 1000000000 ^ k * (x + c + y) = 1000000000 ^ k * ((x + c + y) % 1000000000) + 1000000000 ^ k * 1000000000 * ((x + c + y) / 1000000000) := by
    rw [Nat.mul_assoc, ← Nat.mul_add, ← e]
  rw [Nat.mul_add, Nat.mul_add] at e3
  omega
theorem PlusAt.done {xs ys zs : List Nat} {c : Nat} (h : PlusAt xs ys xs.length zs c) (hl : ys.length ≤ xs.length) : val (zs ++ [c]) = val xs + val ys := by
  obtain ⟨h1, h2, h3, h4⟩ := h
  rw [val_snoc, h1, h4, List.take_length, List.take_of_length_le hl]


set_option maxHeartbeats 1000000 in
theorem plus_ge {A B : Option Addr} {cap cap' : Nat} {xs ys : List Nat} {w : World} (h2 : xs.length ≤ cap) (h3 : cap ≤ 9223372036854775807) (h4 : Reads w 1 A xs.length (u32s xs))
    (k2 : ys.length ≤ cap') (k3 : cap' ≤ 9223372036854775807) (k4 : Reads w 1 B ys.length (u32s ys)) (hx : Digs xs) (hy : Digs ys) (hlen : ys.length ≤ xs.length) (hbig : xs.length ≤ 2199023255552) :
    Calls Tryz.prog 99 #[.slice A xs.length cap, .slice B ys.length cap'] w (GivesS w fun w' r => CanV w' r (val xs + val ys)) := by
  obtain ⟨i0, hi, hz0, hz1, hz2⟩ := info_parts info_u32
  go_enter Tryz.func99, Tryz.ntmps99
  go_wp2_with (first | (at_make; refine wpList_make_own _ rfl _ _ 23 rfl w.heap.size 91 i0 (.int .u32 0) 1 Tryz.underlying23 hi hz0 hz1 _ _ _ (xs.length + 1) rfl rfl (by omega) ?b1 ?b2 ?b3 ?_) | go_in)
  case b1 => rw [hz2]; omega
  case b2 => unfold maxLen; omega
  case b3 => exact Nat.le_refl _
  intro w1 hown hgrow
  have hb1 : Ext w w1 := (Below.refl _ _).grown hgrow (Nat.le_refl _) (by simp)
  clear hgrow
  go_wp2
  go_loopw [5, 6, 23] (fun v cv i wr => ∃ (k c : Nat) (zs : List Nat), k ≤ xs.length ∧ i = .int .i64 k ∧ v = .slice (some ⟨w.heap.size, 0, none⟩) k (xs.length + 1) ∧ cv = .int .u32 c ∧
      wr.ownsRow w.heap.size 91 1 (.slice (some ⟨w.heap.size, 0, none⟩) k (xs.length + 1)) k (u32s zs) ∧ Ext w wr ∧ PlusAt xs ys k zs c)
    (fun _ _ i _ => xs.length - (intOf i).toNat)
  case atStart => exact ⟨0, 0, [], Nat.zero_le _, rfl, rfl, rfl, hown, hb1, PlusAt.zero xs ys⟩
  case round =>
    obtain ⟨k, c, zs, hk, rfl, rfl, rfl, hown1, hbr, hat⟩ := hrel
    by_cases hlt : k < xs.length
    · have hxk := hx.getD k
      have hyk := hy.getD k
      have hsm := hat.small
      have hs := Lib.hid (hat.step hx hy)
      obtain ⟨ad, u, rfl, hb, hu, hcl⟩ := (h4.below hbr).at_ (k := k) hlt
      have hu2 : u = .int .u32 (xs.getD k 0 : Nat) := by simpa [u32s, List.getD, hlt] using hu.symm
      subst hu2
      clear hu hat
      generalize xs.getD k 0 = x at *
      by_cases hlt2 : k < ys.length
      · obtain ⟨bd, u, rfl, hb2, hu, hcl2⟩ := (k4.below hbr).at_ (k := k) hlt2
        have hu2 : u = .int .u32 (ys.getD k 0 : Nat) := by simpa [u32s, List.getD, hlt2] using hu.symm
        subst hu2
        clear hu
        generalize ys.getD k 0 = y at *
        go_wp2_with (first | (at_builtin; refine wpList_append_fits _ rfl _ _ 23 rfl w.heap.size 91 i0 1 Tryz.underlying23 hi hz1 (w.heap.size) k (xs.length + 1) (u32s zs) rfl (hown1.alloc _) ⟨wr.heap.size, 0, none⟩ 1 1 [.int .u32 (((x : Int) + c + y) % 1000000000)] rfl rfl (cell_one_new _ _ _) (ints_oneCell .u32 [_]) (by omega) ?_) | go_in)
        intro w2 hown2 hgrow2
        have hb2 : Ext w w2 := (hbr.alloc hbr.size _).grown hgrow2 (by have := hbr.size; simp; omega) (by simp)
        clear hgrow2 hown1
        go_wp2
        go_roundw
        case rel => exact ⟨k + 1, _, _, by omega, by go_num, rfl, by go_num, by rw [← u32s_snoc]; exact hown2, hb2, hs.out⟩
        case measure => simp [intOf]; try omega
      · have hy0 : ys.getD k 0 = 0 := by simp [List.getD, List.getElem?_eq_none (show ys.length ≤ k by omega)]
        rw [hy0] at hs
        clear hy0 hyk
        go_wp2_with (first | (at_builtin; refine wpList_append_fits _ rfl _ _ 23 rfl w.heap.size 91 i0 1 Tryz.underlying23 hi hz1 (w.heap.size) k (xs.length + 1) (u32s zs) rfl (hown1.alloc _) ⟨wr.heap.size, 0, none⟩ 1 1 [.int .u32 (((x : Int) + c) % 1000000000)] rfl rfl (cell_one_new _ _ _) (ints_oneCell .u32 [_]) (by omega) ?_) | go_in)
        intro w2 hown2 hgrow2
        have hb2 : Ext w w2 := (hbr.alloc hbr.size _).grown hgrow2 (by have := hbr.size; simp; omega) (by simp)
        clear hgrow2 hown1
        go_wp2
        go_roundw
        case rel => exact ⟨k + 1, _, _, by omega, by go_num, rfl, by go_num, by rw [← u32s_snoc]; exact hown2, hb2, hs.out⟩
        case measure => simp [intOf]; try omega
    · obtain rfl : k = xs.length := by omega
      have hdone := Lib.hid (hat.done (by omega))
      have hsm := hat.small
      have hyl := hat.len
      go_wp2_with (first | (at_builtin; refine wpList_append_fits _ rfl _ _ 23 rfl w.heap.size 91 i0 1 Tryz.underlying23 hi hz1 (w.heap.size) xs.length (xs.length + 1) (u32s zs) rfl (hown1.alloc _) ⟨wr.heap.size, 0, none⟩ 1 1 [.int .u32 (c : Int)] rfl rfl (cell_one_new _ _ _) (ints_oneCell .u32 [_]) (by omega) ?_) | fail)
      intro w2 hown2 hgrow2
      have hb2 : Ext w w2 := (hbr.alloc hbr.size _).grown hgrow2 (by have := hbr.size; simp; omega) (by simp)
      rw [u32s_snoc] at hown2
      clear hgrow2 hown1
      go_wp2_with fail
      refine (trim_u (U32s.of_own hown2 (Nat.le_refl _) (by omega)) (Below.refl _ _) (hat.digs.snoc (by omega))).mono ?_
      rintro e w' ⟨v, rfl, hv, rfl, hob⟩
      rw [hdone.out] at hv
      go_wp2
      go_ret
      exact ⟨_, rfl, hv, hb2, (New.at_ (Nat.le_refl _)).same hob⟩

set_option maxHeartbeats 1000000 in
theorem plus_lt {A B : Option Addr} {cap cap' : Nat} {xs ys : List Nat} {w : World} (h2 : xs.length ≤ cap) (h3 : cap ≤ 9223372036854775807) (h4 : Reads w 1 A xs.length (u32s xs))
    (k2 : ys.length ≤ cap') (k3 : cap' ≤ 9223372036854775807) (k4 : Reads w 1 B ys.length (u32s ys)) (hx : Digs xs) (hy : Digs ys) (hlen : ys.length < xs.length) (hbig : xs.length ≤ 2199023255552) :
    Calls Tryz.prog 99 #[.slice B ys.length cap', .slice A xs.length cap] w (GivesS w fun w' r => CanV w' r (val xs + val ys)) := by
  obtain ⟨i0, hi, hz0, hz1, hz2⟩ := info_parts info_u32
  go_enter Tryz.func99, Tryz.ntmps99
  go_wp2_with (first | (at_make; refine wpList_make_own _ rfl _ _ 23 rfl w.heap.size 91 i0 (.int .u32 0) 1 Tryz.underlying23 hi hz0 hz1 _ _ _ (xs.length + 1) rfl rfl (by omega) ?b1 ?b2 ?b3 ?_) | go_in)
  case b1 => rw [hz2]; omega
  case b2 => unfold maxLen; omega
  case b3 => exact Nat.le_refl _
  intro w1 hown hgrow
  have hb1 : Ext w w1 := (Below.refl _ _).grown hgrow (Nat.le_refl _) (by simp)
  clear hgrow
  go_wp2
  go_loopw [5, 6, 23] (fun v cv i wr => ∃ (k c : Nat) (zs : List Nat), k ≤ xs.length ∧ i = .int .i64 k ∧ v = .slice (some ⟨w.heap.size, 0, none⟩) k (xs.length + 1) ∧ cv = .int .u32 c ∧
      wr.ownsRow w.heap.size 91 1 (.slice (some ⟨w.heap.size, 0, none⟩) k (xs.length + 1)) k (u32s zs) ∧ Ext w wr ∧ PlusAt xs ys k zs c)
    (fun _ _ i _ => xs.length - (intOf i).toNat)
  case atStart => exact ⟨0, 0, [], Nat.zero_le _, rfl, rfl, rfl, hown, hb1, PlusAt.zero xs ys⟩
  case round =>
    obtain ⟨k, c, zs, hk, rfl, rfl, rfl, hown1, hbr, hat⟩ := hrel
    by_cases hlt : k < xs.length
    · have hxk := hx.getD k
      have hyk := hy.getD k
      have hsm := hat.small
      have hs := Lib.hid (hat.step hx hy)
      obtain ⟨ad, u, rfl, hb, hu, hcl⟩ := (h4.below hbr).at_ (k := k) hlt
      have hu2 : u = .int .u32 (xs.getD k 0 : Nat) := by simpa [u32s, List.getD, hlt] using hu.symm
      subst hu2
      clear hu hat
      generalize xs.getD k 0 = x at *
      by_cases hlt2 : k < ys.length
      · obtain ⟨bd, u, rfl, hb2, hu, hcl2⟩ := (k4.below hbr).at_ (k := k) hlt2
        have hu2 : u = .int .u32 (ys.getD k 0 : Nat) := by simpa [u32s, List.getD, hlt2] using hu.symm
        subst hu2
        clear hu
        generalize ys.getD k 0 = y at *
        go_wp2_with (first | (at_builtin; refine wpList_append_fits _ rfl _ _ 23 rfl w.heap.size 91 i0 1 Tryz.underlying23 hi hz1 (w.heap.size) k (xs.length + 1) (u32s zs) rfl (hown1.alloc _) ⟨wr.heap.size, 0, none⟩ 1 1 [.int .u32 (((x : Int) + c + y) % 1000000000)] rfl rfl (cell_one_new _ _ _) (ints_oneCell .u32 [_]) (by omega) ?_) | go_in)
        intro w2 hown2 hgrow2
        have hb2 : Ext w w2 := (hbr.alloc hbr.size _).grown hgrow2 (by have := hbr.size; simp; omega) (by simp)
        clear hgrow2 hown1
        go_wp2
        go_roundw
        case rel => exact ⟨k + 1, _, _, by omega, by go_num, rfl, by go_num, by rw [← u32s_snoc]; exact hown2, hb2, hs.out⟩
        case measure => simp [intOf]; try omega
      · have hy0 : ys.getD k 0 = 0 := by simp [List.getD, List.getElem?_eq_none (show ys.length ≤ k by omega)]
        rw [hy0] at hs
        clear hy0 hyk
        go_wp2_with (first | (at_builtin; refine wpList_append_fits _ rfl _ _ 23 rfl w.heap.size 91 i0 1 Tryz.underlying23 hi hz1 (w.heap.size) k (xs.length + 1) (u32s zs) rfl (hown1.alloc _) ⟨wr.heap.size, 0, none⟩ 1 1 [.int .u32 (((x : Int) + c) % 1000000000)] rfl rfl (cell_one_new _ _ _) (ints_oneCell .u32 [_]) (by omega) ?_) | go_in)
        intro w2 hown2 hgrow2
        have hb2 : Ext w w2 := (hbr.alloc hbr.size _).grown hgrow2 (by have := hbr.size; simp; omega) (by simp)
        clear hgrow2 hown1
        go_wp2
        go_roundw
        case rel => exact ⟨k + 1, _, _, by omega, by go_num, rfl, by go_num, by rw [← u32s_snoc]; exact hown2, hb2, hs.out⟩
        case measure => simp [intOf]; try omega
    · obtain rfl : k = xs.length := by omega
      have hdone := Lib.hid (hat.done (by omega))
      have hsm := hat.small
      have hyl := hat.len
      go_wp2_with (first | (at_builtin; refine wpList_append_fits _ rfl _ _ 23 rfl w.heap.size 91 i0 1 Tryz.underlying23 hi hz1 (w.heap.size) xs.length (xs.length + 1) (u32s zs) rfl (hown1.alloc _) ⟨wr.heap.size, 0, none⟩ 1 1 [.int .u32 (c : Int)] rfl rfl (cell_one_new _ _ _) (ints_oneCell .u32 [_]) (by omega) ?_) | fail)
      intro w2 hown2 hgrow2
      have hb2 : Ext w w2 := (hbr.alloc hbr.size _).grown hgrow2 (by have := hbr.size; simp; omega) (by simp)
      rw [u32s_snoc] at hown2
      clear hgrow2 hown1
      go_wp2_with fail
      refine (trim_u (U32s.of_own hown2 (Nat.le_refl _) (by omega)) (Below.refl _ _) (hat.digs.snoc (by omega))).mono ?_
      rintro e w' ⟨v, rfl, hv, rfl, hob⟩
      rw [hdone.out] at hv
      go_wp2
      go_ret
      exact ⟨_, rfl, hv, hb2, (New.at_ (Nat.le_refl _)).same hob⟩

theorem plus_any {u v : Value} {a b : Nat} {w : World} (hu : CanV w u a) (hv : CanV w v b) (ha : (limbsOf a).length ≤ 2199023255552) (hb : (limbsOf b).length ≤ 2199023255552) :
    Calls Tryz.prog 99 #[u, v] w (GivesS w fun w' r => CanV w' r (a + b)) := by
  obtain ⟨A, cap, rfl, h2, h3, h4⟩ := hu
  obtain ⟨B, cap', rfl, k2, k3, k4⟩ := hv
  by_cases h : (limbsOf a).length < (limbsOf b).length
  · have := plus_lt k2 k3 k4 h2 h3 h4 (limbsOf_digs b) (limbsOf_digs a) h hb
    rwa [val_limbsOf, val_limbsOf, Nat.add_comm] at this
  · have := plus_ge h2 h3 h4 k2 k3 k4 (limbsOf_digs a) (limbsOf_digs b) (by omega) ha
    rwa [val_limbsOf, val_limbsOf] at this

end Go.Proofs.YtbplkienkhinmaaGreatDoor
namespace Go.Proofs.YtbplkienkhinmaaGreatDoor
open Go.RowKit Num

/-- What 'minus' has done behind k rounds. -/
structure MinusAt (xs ys : List Nat) (k : Nat) (zs : List Nat) (c : Nat) : Prop where
  len : zs.length = k
  digs : Digs zs
  small : c ≤ 1
  eq : val zs + val (ys.take k) = val (xs.take k) + 1000000000 ^ k * c

theorem MinusAt.zero (xs ys : List Nat) : MinusAt xs ys 0 [] 0 := ⟨rfl, Digs.nil, by omega, by simp [val]⟩
theorem MinusAt.low {xs ys zs : List Nat} {k c : Nat} (h : MinusAt xs ys k zs c) (hx : Digs xs) (hy : Digs ys) (hl : xs.getD k 0 < c + ys.getD k 0) :
    MinusAt xs ys (k + 1) (zs ++ [xs.getD k 0 + 1000000000 - c - ys.getD k 0]) 1 := by
  obtain ⟨h1, h2, h3, h4⟩ := h
  have h5 := hx.getD k
  have h6 := hy.getD k
  generalize e1 : xs.getD k 0 = x at *
  generalize e2 : ys.getD k 0 = y at *
  refine ⟨by simp [h1], h2.snoc (by omega), by omega, ?_⟩
  rw [getD_take_succ, getD_take_succ, val_snoc, h1, e1, e2, Nat.pow_succ]
  have e : (x + 1000000000 - c - y) + y + c = x + 1000000000 := by omega
  have e3 : 1000000000 ^ k * ((x + 1000000000 - c - y) + y + c) = 1000000000 ^ k * (x + 1000000000) := by rw [e]
  rw [Nat.mul_add, Nat.mul_add, Nat.mul_add] at e3
  omega
theorem MinusAt.high {xs ys zs : List Nat} {k c : Nat} (h : MinusAt xs ys k zs c) (hx : Digs xs) (hy : Digs ys) (hl : c + ys.getD k 0 ≤ xs.getD k 0) :
    MinusAt xs ys (k + 1) (zs ++ [xs.getD k 0 - c - ys.getD k 0]) 0 := by
  obtain ⟨h1, h2, h3, h4⟩ := h
  have h5 := hx.getD k
  have h6 := hy.getD k
  generalize e1 : xs.getD k 0 = x at *
  generalize e2 : ys.getD k 0 = y at *
  refine ⟨by simp [h1], h2.snoc (by omega), by omega, ?_⟩
  rw [getD_take_succ, getD_take_succ, val_snoc, h1, e1, e2, Nat.pow_succ]
  have e : (x - c - y) + y + c = x := by omega
  have e3 : 1000000000 ^ k * ((x - c - y) + y + c) = 1000000000 ^ k * x := by rw [e]
  rw [Nat.mul_add, Nat.mul_add] at e3
  omega
theorem MinusAt.done {xs ys zs : List Nat} {c : Nat} (h : MinusAt xs ys xs.length zs c) (hl : ys.length ≤ xs.length) (hle : val ys ≤ val xs) : val zs = val xs - val ys := by
  obtain ⟨h1, h2, h3, h4⟩ := h
  rw [List.take_length, List.take_of_length_le hl] at h4
  have h5 := val_lt h2
  rw [h1] at h5
  cases c with
  | zero => omega
  | succ c =>
    have : 1000000000 ^ xs.length ≤ 1000000000 ^ xs.length * (c + 1) := Nat.le_mul_of_pos_right _ (by omega)
    omega

set_option maxHeartbeats 2000000 in
theorem minus_core {A B : Option Addr} {cap cap' : Nat} {xs ys : List Nat} {w : World} (h2 : xs.length ≤ cap) (h3 : cap ≤ 9223372036854775807) (h4 : Reads w 1 A xs.length (u32s xs))
    (k2 : ys.length ≤ cap') (k3 : cap' ≤ 9223372036854775807) (k4 : Reads w 1 B ys.length (u32s ys)) (hx : Digs xs) (hy : Digs ys) (hlen : ys.length ≤ xs.length) (hle : val ys ≤ val xs) (hbig : xs.length ≤ 4398046511104) :
    Calls Tryz.prog 78 #[.slice A xs.length cap, .slice B ys.length cap'] w (GivesS w fun w' r => CanV w' r (val xs - val ys)) := by
  obtain ⟨i0, hi, hz0, hz1, hz2⟩ := info_parts info_u32
  go_enter Tryz.func78, Tryz.ntmps78
  go_wp2_with (first | (at_make; refine wpList_make_own _ rfl _ _ 23 rfl w.heap.size 91 i0 (.int .u32 0) 1 Tryz.underlying23 hi hz0 hz1 _ _ _ (xs.length) rfl rfl (by omega) ?b1 ?b2 ?b3 ?_) | go_in)
  case b1 => rw [hz2]; omega
  case b2 => unfold maxLen; omega
  case b3 => exact Nat.le_refl _
  intro w1 hown hgrow
  have hb1 : Ext w w1 := (Below.refl _ _).grown hgrow (Nat.le_refl _) (by simp)
  clear hgrow
  go_wp2
  go_loopw [5, 6, 15] (fun v cv i wr => ∃ (k c : Nat) (zs : List Nat), k ≤ xs.length ∧ i = .int .i64 k ∧ v = .slice (some ⟨w.heap.size, 0, none⟩) k (xs.length) ∧ cv = .int .i64 c ∧
      wr.ownsRow w.heap.size 91 1 (.slice (some ⟨w.heap.size, 0, none⟩) k (xs.length)) k (u32s zs) ∧ Ext w wr ∧ MinusAt xs ys k zs c)
    (fun _ _ i _ => xs.length - (intOf i).toNat)
  case atStart => exact ⟨0, 0, [], Nat.zero_le _, rfl, rfl, rfl, hown, hb1, MinusAt.zero xs ys⟩
  case round =>
    obtain ⟨k, c, zs, hk, rfl, rfl, rfl, hown1, hbr, hat⟩ := hrel
    by_cases hlt : k < xs.length
    · have hxk := hx.getD k
      have hyk := hy.getD k
      have hsm := hat.small
      have hs1 := Lib.hid (hat.low hx hy)
      have hs2 := Lib.hid (hat.high hx hy)
      obtain ⟨ad, u, rfl, hb, hu, hcl⟩ := (h4.below hbr).at_ (k := k) hlt
      have hu2 : u = .int .u32 (xs.getD k 0 : Nat) := by simpa [u32s, List.getD, hlt] using hu.symm
      subst hu2
      clear hu hat
      generalize xs.getD k 0 = x at *
      by_cases hlt2 : k < ys.length
      · obtain ⟨bd, u, rfl, hb2, hu, hcl2⟩ := (k4.below hbr).at_ (k := k) hlt2
        have hu2 : u = .int .u32 (ys.getD k 0 : Nat) := by simpa [u32s, List.getD, hlt2] using hu.symm
        subst hu2
        clear hu
        generalize ys.getD k 0 = y at *
        by_cases hd : x < c + y
        · have hd1 : (x : Int) - c - y < 0 := by omega
          go_wp2_with (first | (at_builtin; refine wpList_append_fits _ rfl _ _ 23 rfl w.heap.size 91 i0 1 Tryz.underlying23 hi hz1 (w.heap.size) k (xs.length) (u32s zs) rfl (hown1.alloc _) ⟨wr.heap.size, 0, none⟩ 1 1 [.int .u32 ((x : Int) - c - y + 1000000000)] rfl rfl (cell_one_new _ _ _) (ints_oneCell .u32 [_]) (by omega) ?_) | go_in)
          intro w2 hown2 hgrow2
          have hb2 : Ext w w2 := (hbr.alloc hbr.size _).grown hgrow2 (by have := hbr.size; simp; omega) (by simp)
          clear hgrow2 hown1
          go_wp2
          go_roundw
          case rel => exact ⟨k + 1, 1, _, by omega, by go_num, rfl, by go_num, by rw [← u32s_snoc, show ((x + 1000000000 - c - y : Nat) : Int) = (x : Int) - c - y + 1000000000 from by omega]; exact hown2, hb2, hs1.out hd⟩
          case measure => simp [intOf]; try omega
        · have hd1 : 0 ≤ (x : Int) - c - y := by omega
          go_wp2_with (first | (at_builtin; refine wpList_append_fits _ rfl _ _ 23 rfl w.heap.size 91 i0 1 Tryz.underlying23 hi hz1 (w.heap.size) k (xs.length) (u32s zs) rfl (hown1.alloc _) ⟨wr.heap.size, 0, none⟩ 1 1 [.int .u32 ((x : Int) - c - y)] rfl rfl (cell_one_new _ _ _) (ints_oneCell .u32 [_]) (by omega) ?_) | go_in)
          intro w2 hown2 hgrow2
          have hb2 : Ext w w2 := (hbr.alloc hbr.size _).grown hgrow2 (by have := hbr.size; simp; omega) (by simp)
          clear hgrow2 hown1
          go_wp2
          go_roundw
          case rel => exact ⟨k + 1, 0, _, by omega, by go_num, rfl, by go_num, by rw [← u32s_snoc, show ((x - c - y : Nat) : Int) = (x : Int) - c - y from by omega]; exact hown2, hb2, hs2.out (by omega)⟩
          case measure => simp [intOf]; try omega
      · have hy0 : ys.getD k 0 = 0 := by simp [List.getD, List.getElem?_eq_none (show ys.length ≤ k by omega)]
        rw [hy0] at hs1 hs2
        clear hy0 hyk
        by_cases hd : x < c
        · have hd1 : (x : Int) - c < 0 := by omega
          go_wp2_with (first | (at_builtin; refine wpList_append_fits _ rfl _ _ 23 rfl w.heap.size 91 i0 1 Tryz.underlying23 hi hz1 (w.heap.size) k (xs.length) (u32s zs) rfl (hown1.alloc _) ⟨wr.heap.size, 0, none⟩ 1 1 [.int .u32 ((x : Int) - c + 1000000000)] rfl rfl (cell_one_new _ _ _) (ints_oneCell .u32 [_]) (by omega) ?_) | go_in)
          intro w2 hown2 hgrow2
          have hb2 : Ext w w2 := (hbr.alloc hbr.size _).grown hgrow2 (by have := hbr.size; simp; omega) (by simp)
          clear hgrow2 hown1
          go_wp2
          go_roundw
          case rel => exact ⟨k + 1, 1, _, by omega, by go_num, rfl, by go_num, by rw [← u32s_snoc, show ((x + 1000000000 - c - 0 : Nat) : Int) = (x : Int) - c + 1000000000 from by omega]; exact hown2, hb2, hs1.out (by omega)⟩
          case measure => simp [intOf]; try omega
        · have hd1 : 0 ≤ (x : Int) - c := by omega
          go_wp2_with (first | (at_builtin; refine wpList_append_fits _ rfl _ _ 23 rfl w.heap.size 91 i0 1 Tryz.underlying23 hi hz1 (w.heap.size) k (xs.length) (u32s zs) rfl (hown1.alloc _) ⟨wr.heap.size, 0, none⟩ 1 1 [.int .u32 ((x : Int) - c)] rfl rfl (cell_one_new _ _ _) (ints_oneCell .u32 [_]) (by omega) ?_) | go_in)
          intro w2 hown2 hgrow2
          have hb2 : Ext w w2 := (hbr.alloc hbr.size _).grown hgrow2 (by have := hbr.size; simp; omega) (by simp)
          clear hgrow2 hown1
          go_wp2
          go_roundw
          case rel => exact ⟨k + 1, 0, _, by omega, by go_num, rfl, by go_num, by rw [← u32s_snoc, show ((x - c - 0 : Nat) : Int) = (x : Int) - c from by omega]; exact hown2, hb2, hs2.out (by omega)⟩
          case measure => simp [intOf]; try omega
    · obtain rfl : k = xs.length := by omega
      have hdone := Lib.hid (hat.done hlen hle)
      have hsm := hat.small
      have hyl := hat.len
      go_wp2_with fail
      refine (trim_u (U32s.of_own hown1 (Nat.le_refl _) (by omega)) (Below.refl _ _) hat.digs).mono ?_
      rintro e w' ⟨v, rfl, hv, rfl, hob⟩
      rw [hdone.out] at hv
      go_wp2
      go_ret
      exact ⟨_, rfl, hv, hbr, (New.at_ (Nat.le_refl _)).same hob⟩

theorem minus_any {u v : Value} {a b : Nat} {w : World} (hu : CanV w u a) (hv : CanV w v b) (ha : (limbsOf a).length ≤ 4398046511104) (hle : b ≤ a) :
    Calls Tryz.prog 78 #[u, v] w (GivesS w fun w' r => CanV w' r (a - b)) := by
  obtain ⟨A, cap, rfl, h2, h3, h4⟩ := hu
  obtain ⟨B, cap', rfl, k2, k3, k4⟩ := hv
  have := minus_core h2 h3 h4 k2 k3 k4 (limbsOf_digs a) (limbsOf_digs b) (limbsOf_length_mono hle) (by rw [val_limbsOf, val_limbsOf]; exact hle) ha
  rwa [val_limbsOf, val_limbsOf] at this

end Go.Proofs.YtbplkienkhinmaaGreatDoor
namespace Go.Proofs.YtbplkienkhinmaaGreatDoor
open Go.RowKit Num

/-- The rows of 'times' behind i rounds. -/
structure TimesAt (xs ys : List Nat) (i : Nat) (os : List Nat) : Prop where
  len : os.length = xs.length + ys.length
  digs : Digs os
  eq : val (os.take (i + ys.length)) = val (xs.take i) * val ys
  zero : ∀ p, i + ys.length ≤ p → os.getD p 0 = 0

/-- Within row i, behind j rounds: os the row's start. -/
structure RowAt (x : Nat) (ys os : List Nat) (i j : Nat) (qs : List Nat) (c : Nat) : Prop where
  len : qs.length = os.length
  digs : Digs qs
  small : c < 1000000000
  eq : val (qs.take (i + j)) + 1000000000 ^ (i + j) * c = val (os.take (i + j)) + 1000000000 ^ i * (x * val (ys.take j))
  rest : ∀ p, i + j ≤ p → qs.getD p 0 = os.getD p 0

theorem getD_set_ne (l : List Nat) {p q : Nat} (v : Nat) (h : p ≠ q) : (l.set p v).getD q 0 = l.getD q 0 := by
  simp [List.getD, List.getElem?_set, h]
theorem getD_set_eq (l : List Nat) {p : Nat} (v : Nat) (h : p < l.length) : (l.set p v).getD p 0 = v := by
  simp [List.getD, h]
theorem take_set_le (l : List Nat) {p k : Nat} (v : Nat) (h : k ≤ p) : (l.set p v).take k = l.take k := by
  rw [List.take_set_of_le h]
theorem Num.Digs.set {l : List Nat} (h : Digs l) (p : Nat) {v : Nat} (hv : v < 1000000000) : Digs (l.set p v) := by
  intro x hx
  rcases List.mem_or_eq_of_mem_set hx with hx | rfl
  · exact h x hx
  · exact hv

theorem TimesAt.start (xs ys : List Nat) : TimesAt xs ys 0 (List.replicate (xs.length + ys.length) 0) :=
  ⟨by simp, fun x hx => by simp at hx; omega, by simp [val, List.take_replicate, val_zeros], fun p _ => by simp [List.getD, List.getElem?_replicate]; split <;> rfl⟩

theorem RowAt.start {xs ys os : List Nat} {i x : Nat} (h : TimesAt xs ys i os) : RowAt x ys os i 0 os 0 :=
  ⟨rfl, h.digs, by omega, by simp [val], fun _ _ => rfl⟩

theorem RowAt.bound {x : Nat} {ys os qs : List Nat} {i j c : Nat} (h : RowAt x ys os i j qs c) (hy : Digs ys) (hx : x < 1000000000) :
    c + (x * ys.getD j 0 + qs.getD (i + j) 0) < 1000000000 * 1000000000 := by
  have h1 := hy.getD j
  have h2 := h.digs.getD (i + j)
  have h3 := h.small
  have h4 : x * ys.getD j 0 ≤ 999999999 * 999999999 := Nat.mul_le_mul (by omega) (by omega)
  omega

theorem RowAt.step {x : Nat} {ys os qs : List Nat} {i j c : Nat} (h : RowAt x ys os i j qs c) (hy : Digs ys) (hx : x < 1000000000) (hl : i + j < os.length) :
    RowAt x ys os i (j + 1) (qs.set (i + j) ((c + (x * ys.getD j 0 + qs.getD (i + j) 0)) % 1000000000)) ((c + (x * ys.getD j 0 + qs.getD (i + j) 0)) / 1000000000) := by
  have hb := h.bound hy hx
  obtain ⟨h1, h2, h3, h4, h5⟩ := h
  refine ⟨by simp [h1], h2.set _ (by omega), by omega, ?_, ?_⟩
  · have e0 := h5 (i + j) (Nat.le_refl _)
    rw [show i + (j + 1) = (i + j) + 1 from rfl, getD_take_succ, getD_take_succ, getD_take_succ, getD_set_eq _ _ (by omega), take_set_le _ _ (Nat.le_refl _), ← e0]
    generalize qs.getD (i + j) 0 = q at *
    generalize ys.getD j 0 = y at *
    have e : c + (x * y + q) = (c + (x * y + q)) % 1000000000 + 1000000000 * ((c + (x * y + q)) / 1000000000) := by omega
    have e3 : 1000000000 ^ (i + j) * (c + (x * y + q)) = 1000000000 ^ (i + j) * ((c + (x * y + q)) % 1000000000) + 1000000000 ^ (i + j) * 1000000000 * ((c + (x * y + q)) / 1000000000) := by
      rw [Nat.mul_assoc, ← Nat.mul_add, ← e]
    rw [Nat.pow_succ]
    have e4 : 1000000000 ^ i * (x * (val (ys.take j) + 1000000000 ^ j * y)) = 1000000000 ^ i * (x * val (ys.take j)) + 1000000000 ^ (i + j) * (x * y) := by
      rw [Nat.mul_add, Nat.mul_add, Nat.pow_add]
      congr 1
      rw [Nat.mul_left_comm x, Nat.mul_assoc]
    rw [e4]
    rw [Nat.mul_add, Nat.mul_add] at e3
    omega
  · intro p hp
    rw [getD_set_ne _ _ (by omega)]
    exact h5 p (by omega)

theorem RowAt.done {xs ys os qs : List Nat} {i c : Nat} (ht : TimesAt xs ys i os) (h : RowAt (xs.getD i 0) ys os i ys.length qs c) (hi : i < xs.length) :
    TimesAt xs ys (i + 1) (qs.set (i + ys.length) c) := by
  obtain ⟨h1, h2, h3, h4, h5⟩ := h
  obtain ⟨t1, t2, t3, t4⟩ := ht
  refine ⟨by simp [h1, t1], h2.set _ h3, ?_, ?_⟩
  · rw [show i + 1 + ys.length = (i + ys.length) + 1 from by omega, getD_take_succ, getD_take_succ, getD_set_eq _ _ (by omega), take_set_le _ _ (Nat.le_refl _), h4, t3, List.take_length, Nat.add_mul, Nat.mul_assoc]
  · intro p hp
    rw [getD_set_ne _ _ (by omega), h5 p (by omega)]
    exact t4 p (by omega)

theorem TimesAt.done {xs ys os : List Nat} (h : TimesAt xs ys xs.length os) : val os = val xs * val ys := by
  have := h.eq
  rwa [← h.len, List.take_length, List.take_length] at this

theorem u32s_replicate (n : Nat) : (madeCells #[Value.int .u32 0] n).toList = u32s (List.replicate n 0) := by
  rw [toList_madeCells_one]
  simp [u32s]
theorem u32s_get (xs : List Nat) (j : Nat) (h : j < xs.length) : (u32s xs)[j]? = some (.int .u32 (xs.getD j 0 : Nat)) := by simp [u32s, List.getD, h]
theorem u32s_set (xs : List Nat) (j : Nat) (x : Nat) : (u32s xs).set j (.int .u32 (x : Int)) = u32s (xs.set j x) := by simp [u32s, List.map_set]

set_option maxHeartbeats 2000000 in
theorem times_core {A B : Option Addr} {cap cap' : Nat} {xs ys : List Nat} {w : World} (h2 : xs.length ≤ cap) (h3 : cap ≤ 9223372036854775807) (h4 : Reads w 1 A xs.length (u32s xs))
    (k2 : ys.length ≤ cap') (k3 : cap' ≤ 9223372036854775807) (k4 : Reads w 1 B ys.length (u32s ys)) (hx : Digs xs) (hy : Digs ys) (hbig : xs.length + ys.length ≤ 8796093022208) :
    Calls Tryz.prog 44 #[.slice A xs.length cap, .slice B ys.length cap'] w (GivesS w fun w' r => CanV w' r (val xs * val ys)) := by
  obtain ⟨i0, hi, hz0, hz1, hz2⟩ := info_parts info_u32
  go_enter Tryz.func44, Tryz.ntmps44
  go_wp2_with (first | (at_make; refine wpList_make_full _ rfl _ _ 23 rfl w.heap.size 91 i0 (.int .u32 0) 1 Tryz.underlying23 hi hz0 hz1 _ _ _ _ (xs.length + ys.length) rfl rfl (by omega) (by omega) ?b1 ?b2 ?b3 ?_) | go_in)
  case b1 => rw [hz2]; omega
  case b2 => unfold maxLen; omega
  case b3 => exact Nat.le_refl _
  intro w1 hown hgrow
  rw [u32s_replicate] at hown
  have hb1 : Ext w w1 := (Below.refl _ _).grown hgrow (Nat.le_refl _) (by simp)
  clear hgrow
  go_wp2
  go_loopw [19] (fun i wr => ∃ (k : Nat) (os : List Nat), k ≤ xs.length ∧ i = .int .i64 k ∧
      wr.ownsRow w.heap.size 91 1 (.slice (some ⟨w.heap.size, 0, none⟩) (xs.length + ys.length) (xs.length + ys.length)) (xs.length + ys.length) (u32s os) ∧ Ext w wr ∧ TimesAt xs ys k os)
    (fun i _ => xs.length - (intOf i).toNat)
  case atStart => exact ⟨0, _, Nat.zero_le _, rfl, hown, hb1, TimesAt.start xs ys⟩
  case round =>
    obtain ⟨i, os, hk, rfl, hown1, hbr, hat⟩ := hrel
    obtain ⟨wo, hwo⟩ : ∃ wo : World, wo = wr := ⟨_, rfl⟩
    subst hwo
    by_cases hlt : i < xs.length
    · have hxk := hx.getD i
      obtain ⟨ad, u, rfl, hb, hu, hcl⟩ := (h4.below hbr).at_ (k := i) hlt
      have hu2 : u = .int .u32 (xs.getD i 0 : Nat) := by simpa [u32s, List.getD, hlt] using hu.symm
      subst hu2
      clear hu
      obtain ⟨x, hxx⟩ : ∃ x, x = xs.getD i 0 := ⟨_, rfl⟩
      rw [← hxx] at hcl hxk
      have HX := Lib.hid hxx
      clear hxx
      have hol := Lib.hid hat.len
      go_wp2
      go_loopw [8, 26] (fun cv jv wr => ∃ (j c : Nat) (qs : List Nat), j ≤ ys.length ∧ jv = .int .i64 j ∧ cv = .int .u64 c ∧
          wr.ownsRow w.heap.size 91 1 (.slice (some ⟨w.heap.size, 0, none⟩) (xs.length + ys.length) (xs.length + ys.length)) (xs.length + ys.length) (u32s qs) ∧ Ext w wr ∧ RowAt x ys os i j qs c)
        (fun _ jv _ => ys.length - (intOf jv).toNat)
      case atStart => exact ⟨0, 0, os, Nat.zero_le _, rfl, rfl, hown1, hbr, RowAt.start hat⟩
      case round =>
        obtain ⟨j, c, qs, hj, rfl, rfl, hown2, hb2, hrow⟩ := hrel
        have hql : qs.length = xs.length + ys.length := by rw [hrow.len, hol.out]
        by_cases hjl : j < ys.length
        · have hyj := hy.getD j
          obtain ⟨bd, u, rfl, hb3, hu, hcl2⟩ := (k4.below hb2).at_ (k := j) hjl
          have hu2 : u = .int .u32 (ys.getD j 0 : Nat) := by simpa [u32s, List.getD, hjl] using hu.symm
          subst hu2
          clear hu
          have hqj := hrow.digs.getD (i + j)
          have hsm := hrow.small
          have hcq : wr.cell? ⟨w.heap.size, i + j, none⟩ = some (.int .u32 (qs.getD (i + j) 0 : Nat)) := by rw [hown2.cellAt (i + j) (by omega), u32s_get qs _ (by omega)]
          have hfq : wr.frozen? ⟨w.heap.size, i + j, none⟩ = false := hown2.frozenAt _
          have hbd := hrow.bound hy hxk
          have hst := Lib.hid (hrow.step hy hxk (by rw [hol.out]; omega))
          clear hrow
          have HQ := Lib.hid hql
          clear hql
          generalize ys.getD j 0 = y at *
          generalize qs.getD (i + j) 0 = q at *
          have hxy : x * y ≤ 999999999 * 999999999 := Nat.mul_le_mul (by omega) (by omega)
          have hxy1 : (x : Int) * (y : Int) ≤ 999999998000000001 := by have := Int.ofNat_le.2 hxy; simpa using this
          have hxy0 : 0 ≤ (x : Int) * (y : Int) := Int.mul_nonneg (by omega) (by omega)
          clear hxy hbd
          go_wp2
          go_roundw
          case rel =>
            have hs := (hown2.stored (i + j) (.int .u32 (((c : Int) + ((x : Int) * (y : Int) + q)) % 1000000000))).1
            have e : (((c : Int) + ((x : Int) * (y : Int) + q)) % 1000000000) = (((c + (x * y + q)) % 1000000000 : Nat) : Int) := by simp
            rw [e, u32s_set] at hs
            exact ⟨j + 1, _, _, by omega, by go_num, by go_num, by rw [e]; exact hs, hb2.setCell (Nat.le_refl _) _, hst.out⟩
          case measure => simp [intOf]; try omega
        · obtain rfl : j = ys.length := by omega
          have hcq : wr.cell? ⟨w.heap.size, i + ys.length, none⟩ = some (.int .u32 (qs.getD (i + ys.length) 0 : Nat)) := by rw [hown2.cellAt (i + ys.length) (by omega), u32s_get qs _ (by omega)]
          have hfq : wr.frozen? ⟨w.heap.size, i + ys.length, none⟩ = false := hown2.frozenAt _
          have hsm := hrow.small
          have hdn := Lib.hid (RowAt.done hat (by rw [← HX.out]; exact hrow) hlt)
          clear hrow hql
          go_wp2
          go_roundw
          case rel =>
            have hs := (hown2.stored (i + ys.length) (.int .u32 (c : Int))).1
            rw [u32s_set] at hs
            exact ⟨i + 1, _, by omega, by go_num, hs, hb2.setCell (Nat.le_refl _) _, hdn.out⟩
          case measure => simp [intOf]; try omega
    · obtain rfl : i = xs.length := by omega
      have hdone := Lib.hid hat.done
      go_wp2_with fail
      refine (trim_u (U32s.of_own hown1 (Nat.le_refl _) (by omega)) (Below.refl _ _) hat.digs).mono ?_
      rintro e w' ⟨v, rfl, hv, rfl, hob⟩
      rw [hdone.out] at hv
      go_wp2
      go_ret
      exact ⟨_, rfl, hv, hbr, (New.at_ (Nat.le_refl _)).same hob⟩

theorem times_any {u v : Value} {a b : Nat} {w : World} (hu : CanV w u a) (hv : CanV w v b) (hl : (limbsOf a).length + (limbsOf b).length ≤ 8796093022208) :
    Calls Tryz.prog 44 #[u, v] w (GivesS w fun w' r => CanV w' r (a * b)) := by
  obtain ⟨A, cap, rfl, h2, h3, h4⟩ := hu
  obtain ⟨B, cap', rfl, k2, k3, k4⟩ := hv
  have := times_core h2 h3 h4 k2 k3 k4 (limbsOf_digs a) (limbsOf_digs b) hl
  rwa [val_limbsOf, val_limbsOf] at this

end Go.Proofs.YtbplkienkhinmaaGreatDoor
namespace Go.Proofs.YtbplkienkhinmaaGreatDoor
open Go.RowKit Num

/-- What 'short' has done where k limbs are still to come. -/
structure ShortAt (xs : List Nat) (d k : Nat) (os : List Nat) (r : Nat) : Prop where
  len : os.length = xs.length
  digs : Digs os
  small : r < d
  eq : val (os.drop k) * d + r = val (xs.drop k)

theorem ShortAt.start (xs : List Nat) {d : Nat} (hd : 0 < d) : ShortAt xs d xs.length (List.replicate xs.length 0) 0 :=
  ⟨by simp, fun x hx => by simp at hx; omega, hd, by simp [val]⟩

theorem ShortAt.digit {xs os : List Nat} {d k r : Nat} (h : ShortAt xs d (k + 1) os r) (hx : Digs xs) : (r * 1000000000 + xs.getD k 0) / d < 1000000000 := by
  have h1 := hx.getD k
  have h2 := h.small
  rw [Nat.div_lt_iff_lt_mul (by omega)]
  have : (r + 1) * 1000000000 ≤ d * 1000000000 := Nat.mul_le_mul_right _ (by omega)
  omega

theorem ShortAt.step {xs os : List Nat} {d k r : Nat} (h : ShortAt xs d (k + 1) os r) (hx : Digs xs) (hk : k < xs.length) :
    ShortAt xs d k (os.set k ((r * 1000000000 + xs.getD k 0) / d)) ((r * 1000000000 + xs.getD k 0) % d) := by
  have hq := h.digit hx
  obtain ⟨h1, h2, h3, h4⟩ := h
  refine ⟨by simp [h1], h2.set _ hq, Nat.mod_lt _ (by omega), ?_⟩
  have e1 : (os.set k ((r * 1000000000 + xs.getD k 0) / d)).drop k = ((r * 1000000000 + xs.getD k 0) / d) :: os.drop (k + 1) := by
    rw [List.drop_eq_getElem_cons (by simp; omega), List.drop_set_of_lt (by omega)]
    simp
  have e2 : xs.drop k = xs.getD k 0 :: xs.drop (k + 1) := by
    rw [List.drop_eq_getElem_cons hk]; simp [List.getD, hk]
  rw [e1, e2, val, val, ← h4]
  generalize xs.getD k 0 = x at *
  have := Nat.div_add_mod (r * 1000000000 + x) d
  generalize (r * 1000000000 + x) / d = q at *
  generalize (r * 1000000000 + x) % d = s at *
  rw [Nat.add_mul, Nat.mul_add, Nat.mul_assoc, Nat.mul_comm q d]
  omega

theorem ShortAt.done {xs os : List Nat} {d r : Nat} (h : ShortAt xs d 0 os r) : val os = val xs / d ∧ r = val xs % d := by
  obtain ⟨h1, h2, h3, h4⟩ := h
  simp only [List.drop_zero] at h4
  rw [← h4, Nat.mul_comm]
  constructor
  · rw [Nat.mul_add_div (by omega), Nat.div_eq_of_lt h3]; omega
  · rw [Nat.mul_add_mod, Nat.mod_eq_of_lt h3]

set_option maxHeartbeats 2000000 in
theorem short_core {A : Option Addr} {cap : Nat} {xs : List Nat} {d : Nat} {w : World} (h2 : xs.length ≤ cap) (h3 : cap ≤ 9223372036854775807) (h4 : Reads w 1 A xs.length (u32s xs))
    (hx : Digs xs) (hd0 : 0 < d) (hd1 : d < 1000000000) (hbig : xs.length ≤ 8796093022208) :
    Calls Tryz.prog 76 #[.slice A xs.length cap, .int .u32 d] w (fun e w' => ∃ v, e = .returned (.tuple #[v, .int .u32 (val xs % d : Nat)]) ∧ CanV w' v (val xs / d) ∧ Ext w w' ∧ New w.heap.size v) := by
  obtain ⟨i0, hi, hz0, hz1, hz2⟩ := info_parts info_u32
  go_enter Tryz.func76, Tryz.ntmps76
  go_wp2_with (first | (at_make; refine wpList_make_full _ rfl _ _ 23 rfl w.heap.size 91 i0 (.int .u32 0) 1 Tryz.underlying23 hi hz0 hz1 _ _ _ _ (xs.length) rfl rfl (by omega) (by omega) ?b1 ?b2 ?b3 ?_) | go_in)
  case b1 => rw [hz2]; omega
  case b2 => unfold maxLen; omega
  case b3 => exact Nat.le_refl _
  intro w1 hown hgrow
  rw [u32s_replicate] at hown
  have hb1 : Ext w w1 := (Below.refl _ _).grown hgrow (Nat.le_refl _) (by simp)
  clear hgrow
  go_wp2
  go_loopw [7, 8] (fun rv iv wr => ∃ (k r : Nat) (os : List Nat), k ≤ xs.length ∧ iv = .int .i64 ((k : Int) - 1) ∧ rv = .int .u64 r ∧
      wr.ownsRow w.heap.size 91 1 (.slice (some ⟨w.heap.size, 0, none⟩) xs.length xs.length) xs.length (u32s os) ∧ Ext w wr ∧ ShortAt xs d k os r)
    (fun _ iv _ => (intOf iv + 1).toNat)
  case atStart => exact ⟨xs.length, 0, _, Nat.le_refl _, rfl, rfl, hown, hb1, ShortAt.start xs hd0⟩
  case round =>
    obtain ⟨k, r, os, hk, rfl, rfl, hown1, hbr, hat⟩ := hrel
    cases k with
    | succ k =>
      have hxk := hx.getD k
      have hdg := hat.digit hx
      have hsm := hat.small
      have hol := Lib.hid hat.len
      have hst := Lib.hid (hat.step hx (by omega))
      obtain ⟨ad, u, rfl, hb, hu, hcl⟩ := (h4.below hbr).at_ (k := k) (by omega)
      have hu2 : u = .int .u32 (xs.getD k 0 : Nat) := by simpa [u32s, List.getD, show k < xs.length by omega] using hu.symm
      subst hu2
      clear hu hat
      have hcq : wr.cell? ⟨w.heap.size, k, none⟩ = some (.int .u32 (os.getD k 0 : Nat)) := by rw [hown1.cellAt k (by omega), u32s_get os _ (by rw [hol.out]; omega)]
      have hfq : wr.frozen? ⟨w.heap.size, k, none⟩ = false := hown1.frozenAt _
      generalize xs.getD k 0 = x at *
      generalize os.getD k 0 = o at *
      have hi0 : 0 ≤ ((r : Int) * 1000000000 + x) / d := Int.ediv_nonneg (by omega) (by omega)
      have hi1 : ((r : Int) * 1000000000 + x) / d < 1000000000 := by have := Int.ofNat_lt.2 hdg; simpa using this
      have hi2 : 0 ≤ ((r : Int) * 1000000000 + x) % d := Int.emod_nonneg _ (by omega)
      have hi3 : ((r : Int) * 1000000000 + x) % d < d := Int.emod_lt_of_pos _ (by omega)
      clear hdg
      go_wp2
      go_roundw
      case rel =>
        have hs := (hown1.stored k (.int .u32 (((r : Int) * 1000000000 + x) / d))).1
        have e : (((r : Int) * 1000000000 + x) / d) = (((r * 1000000000 + x) / d : Nat) : Int) := by simp
        rw [e, u32s_set] at hs
        exact ⟨k, _, _, by omega, by go_num, by go_num, by rw [e]; exact hs, hbr.setCell (Nat.le_refl _) _, hst.out⟩
      case measure => simp [intOf]; try omega
    | zero =>
      have hdone := Lib.hid hat.done
      have hsm := hat.small
      go_wp2_with fail
      refine (trim_u (U32s.of_own hown1 (Nat.le_refl _) (by omega)) (Below.refl _ _) hat.digs).mono ?_
      rintro e w' ⟨v, rfl, hv, rfl, hob⟩
      rw [hdone.out.1] at hv
      go_wp2
      go_ret2
      exact ⟨_, by rw [← hdone.out.2]; rfl, hv, hbr, (New.at_ (Nat.le_refl _)).same hob⟩

theorem short_any {u : Value} {a d : Nat} {w : World} (hu : CanV w u a) (hd0 : 0 < d) (hd1 : d < 1000000000) (hl : (limbsOf a).length ≤ 8796093022208) :
    Calls Tryz.prog 76 #[u, .int .u32 d] w (fun e w' => ∃ v, e = .returned (.tuple #[v, .int .u32 (a % d : Nat)]) ∧ CanV w' v (a / d) ∧ Ext w w' ∧ New w.heap.size v) := by
  obtain ⟨A, cap, rfl, h2, h3, h4⟩ := hu
  have := short_core h2 h3 h4 (limbsOf_digs a) hd0 hd1 hl
  rwa [val_limbsOf] at this

set_option maxHeartbeats 1000000 in
theorem clone_any {v : Value} {xs : List Nat} {w : World} (hv : U32s w v xs) (hl : xs.length ≤ 35184372088832) :
    Calls Tryz.prog 77 #[v] w (GivesS w fun w' r => U32s w' r xs) := by
  obtain ⟨A, cap, rfl, h2, h3, h4⟩ := hv
  obtain ⟨i0, hi, hz0, hz1, hz2⟩ := info_parts info_u32
  have hnil := fun (W : World) => Lib.run_eql_slice_nil (P := Tryz.prog) W 23 91 A xs.length cap 0 0 Tryz.underlying23
  cases A with
  | none =>
    have h0 : xs.length = 0 := by
      rcases Nat.eq_zero_or_pos xs.length with h | h
      · exact h
      · obtain ⟨ad, e, _⟩ := h4.2 h
        cases e
    have : xs = [] := List.eq_nil_of_length_eq_zero h0
    subst this
    clear h0 h4 h2
    simp only [Option.isNone_none, List.length_nil] at hnil
    simp only [List.length_nil]
    go_enter Tryz.func77, Tryz.ntmps77
    go_wp2
    go_ret
    exact ⟨_, rfl, U32s.nil_ _, Below.refl _ _, New.nil_ _⟩
  | some ad =>
    simp only [Option.isNone_some] at hnil
    have hown0 : (w.alloc (.cells #[] 91)).ownsRow w.heap.size 91 1 (.slice (some ⟨w.heap.size, 0, none⟩) 0 0) 0 [] :=
      World.ownsRow_lit (base := w.heap.size) w #[] 0 (Nat.le_refl _) (by unfold maxLen; omega) rfl
    have hcells : ∀ j u, (u32s xs)[j]? = some u → w.cell? (ad.add j) = some u ∧ ad.block < w.heap.size := by
      intro j u hu
      have : j < xs.length := by have := (List.getElem?_eq_some_iff.1 hu).1; simpa [u32s] using this
      obtain ⟨ad', e, hb, hc⟩ := h4.2 (by omega)
      injection e with e
      subst e
      exact ⟨hc j u hu, hb⟩
    have hcells' : ∀ j u, (u32s xs)[j]? = some u → (w.alloc (.cells #[] 91)).cell? (ad.add j) = some u := fun j u hu => by
      obtain ⟨h1, hb⟩ := hcells j u hu
      rw [World.cell?_alloc_lt _ _ _ (by rw [block_of_add]; exact hb)]; exact h1
    go_enter Tryz.func77, Tryz.ntmps77
    go_wp2_with (first | (at_builtin; refine wpList_append_own _ rfl _ _ 23 rfl w.heap.size 91 i0 (.int .u32 0) 1 4 Tryz.underlying23 hi hz0 hz1 hz2 rfl (by omega) _ 0 [] rfl hown0 ad xs.length cap (u32s xs) rfl (by simp [u32s]) hcells' (u32s_oneCell _) (by unfold maxLen; omega) (by omega) (by simp) ?_) | fail)
    intro v' w1 hown1 hgrow1 _
    have hb : Ext w w1 := ((Below.refl _ _).alloc (Nat.le_refl _) _).grown hgrow1 (by simp) (by simp [Value.ownBlock])
    clear hgrow1
    go_wp2
    go_ret
    exact ⟨_, rfl, U32s.of_row hown1, hb, fun b h => (hown1.lt b h).1⟩

end Go.Proofs.YtbplkienkhinmaaGreatDoor
