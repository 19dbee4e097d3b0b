/- The element types' rows of the table. trim. limbs. made, compare. -/
import Derived.Test.YtbplkienkhinmaaGreatDoorProg
import Derived.Test.YtbplkienkhinmaaGreatDoorMem
import Derived.BigQuiet
import Derived.Deep.QuietTactic
set_option linter.unusedVariables false
set_option linter.unusedSimpArgs false
set_option maxRecDepth 100000
namespace Go.Proofs.YtbplkienkhinmaaGreatDoor
open Go.RowKit
theorem info_u32 : (Tryz.prog.info? 91).map (fun i => (i.zero, i.size, i.bytes)) = some (some (.int .u32 0), 1, 4) := by kernel_rfl
end Go.Proofs.YtbplkienkhinmaaGreatDoor
namespace Go.Proofs.YtbplkienkhinmaaGreatDoor
open Go.RowKit Num

theorem trimL_take_zero (xs : List Nat) (k : Nat) (hk : k < xs.length) (h : xs[k] = 0) : trimL (xs.take (k + 1)) = trimL (xs.take k) := by
  rw [List.take_succ_eq_append_getElem hk, h, trimL_snoc_zero]
theorem trimL_take_pos (xs : List Nat) (k : Nat) (hk : k < xs.length) (h : xs[k] ≠ 0) : (trimL (xs.take (k + 1))).length = k + 1 := by
  rw [List.take_succ_eq_append_getElem hk, trimL_snoc_pos _ _ h]; simp; omega

set_option maxHeartbeats 400000 in
theorem trim_any (A : Option Addr) (n cap : Nat) (xs : List Nat) (w : World) (hr : Reads w 1 A n (u32s xs)) (hc : n ≤ cap) (hm : cap ≤ 9223372036854775807) :
    Calls Tryz.prog 62 #[.slice A n cap] w fun e w' => e = .returned (.slice A (trimL xs).length cap) ∧ w = w' := by
  have hl : xs.length = n := by simpa [u32s] using hr.1
  go_enter Tryz.func62, Tryz.ntmps62
  go_wp2
  go_loop [0] (fun v => ∃ k : Nat, k ≤ n ∧ v = .slice A k cap ∧ trimL (xs.take k) = trimL xs) (fun v => lenOf v)
  case atStart => exact ⟨n, Nat.le_refl _, rfl, by rw [← hl, List.take_length]⟩
  case round =>
    obtain ⟨k, hk, rfl, ht⟩ := hrel
    cases k with
    | zero =>
      go_wp2
      go_ret
      exact ⟨by rw [← ht]; rfl, rfl⟩
    | succ k =>
      have hkl : k < xs.length := by omega
      obtain ⟨ad, u, rfl, hb, hu, hcell⟩ := hr.at_ (k := k) (by omega)
      have hu2 : u = .int .u32 (xs[k] : Int) := by simpa [u32s, hkl] using hu.symm
      subst hu2
      clear hu
      by_cases h0 : xs[k] = 0
      · have hb0 : ((xs[k] : Int) == 0) = true := by simp [h0]
        go_wp2
        go_round
        case rel => exact ⟨k, by omega, by go_num, by rw [← ht, trimL_take_zero xs k hkl h0]⟩
        case measure => simp [lenOf]
      · have hb0 : ((xs[k] : Int) == 0) = false := by simpa using h0
        go_wp2
        go_ret
        exact ⟨ret_slice (by rw [← ht, trimL_take_pos xs k hkl h0]), rfl⟩

theorem trim_u {v : Value} {xs : List Nat} {w w0 : World} (hv : U32s w0 v xs) (hx : Ext w0 w) (hd : Digs xs) :
    Calls Tryz.prog 62 #[v] w fun e w' => ∃ v', e = .returned v' ∧ CanV w0 v' (val xs) ∧ w = w' ∧ v'.ownBlock = v.ownBlock := by
  obtain ⟨A, cap, rfl, h2, h3, h4⟩ := hv
  refine (trim_any A _ cap xs w (h4.below hx) h2 h3).mono ?_
  rintro e w' ⟨rfl, rfl⟩
  refine ⟨_, rfl, ?_, rfl, by cases A <;> rfl⟩
  have hl := trimL_length_le xs
  unfold CanV
  rw [← trimL_canon hd]
  refine ⟨A, cap, rfl, by omega, h3, ?_⟩
  have := h4.take_ hl
  rwa [u32s_take, ← trimL_prefix] at this

end Go.Proofs.YtbplkienkhinmaaGreatDoor
namespace Go.Proofs.YtbplkienkhinmaaGreatDoor
open Go.RowKit Num

/-- What 'limbs' has done behind k rounds. -/
structure LimbsAt (xs : List Nat) (k : Nat) (ys : List Nat) (c : Nat) : Prop where
  len : ys.length = k
  digs : Digs ys
  small : c ≤ 8
  eq : val ys + 1000000000 ^ k * c = val (xs.take k)

theorem LimbsAt.zero (xs : List Nat) : LimbsAt xs 0 [] 0 := ⟨rfl, Digs.nil, by omega, by simp [val]⟩
theorem LimbsAt.step {xs ys : List Nat} {k c : Nat} (h : LimbsAt xs k ys c) (hk : k < xs.length) (hx : xs[k] < 4294967296) :
    LimbsAt xs (k + 1) (ys ++ [(c + xs[k]) % 1000000000]) ((c + xs[k]) / 1000000000) := by
  obtain ⟨h1, h2, h3, h4⟩ := h
  refine ⟨by simp [h1], h2.snoc (by omega), by omega, ?_⟩
  rw [List.take_succ_eq_append_getElem hk, val_snoc, val_snoc, ← h4, h1, List.length_take, Nat.min_eq_left (by omega), Nat.pow_succ, Nat.add_assoc, Nat.add_assoc,
    Nat.mul_assoc, ← Nat.mul_add, ← Nat.mul_add]
  congr 2
  omega
theorem LimbsAt.done {xs ys : List Nat} {c : Nat} (h : LimbsAt xs xs.length ys c) : val (ys ++ [c]) = val xs := by
  obtain ⟨h1, h2, h3, h4⟩ := h
  rw [val_snoc, h1, h4, List.take_length]

set_option maxHeartbeats 400000 in
theorem limbs_any (A : Option Addr) (n cap : Nat) (xs : List Nat) (w : World) (hr : Reads w 1 A n (u32s xs)) (hx : ∀ x ∈ xs, x < 4294967296) (hc : n ≤ cap) (hn : n ≤ 1099511627776) :
    Calls Tryz.prog 42 #[.agg #[.slice A n cap]] w (GivesS w fun w' v => CanV w' v (val xs)) := by
  have hl : xs.length = n := by simpa [u32s] using hr.1
  obtain ⟨i0, hi, hz0, hz1, hz2⟩ := info_parts info_u32
  go_enter Tryz.func42, Tryz.ntmps42
  go_wp2_with (first | (at_make; refine wpList_make_own _ rfl _ _ 23 rfl w.heap.size 91 i0 (.int .u32 0) 1 Tryz.underlying23 hi hz0 hz1 _ _ _ (n + 1) rfl rfl (by omega) ?b1 ?b2 ?b3 ?_) | go_in)
  case b1 => rw [hz2]; omega
  case b2 => unfold maxLen; omega
  case b3 => simp
  intro w1 hown hgrow
  have hb1 : Ext w w1 := ((Below.refl _ _).alloc (Nat.le_refl _) _).grown hgrow (by simp) (by simp)
  have hs1 : w.heap.size + 1 < w1.heap.size := by have := hown.lt (w.heap.size + 1) rfl; omega
  have hcell : w1.cell? ⟨w.heap.size, 0, none⟩ = some (.slice A n cap) := hgrow.cell (by simp) (by simp)
  have hr1 := hr.below hb1
  clear hgrow
  go_wp2
  go_loopw [3, 4, 15] (fun v cv i wr => ∃ (k c : Nat) (ys : List Nat), k ≤ n ∧ i = .int .i64 k ∧ v = .slice (some ⟨w.heap.size + 1, 0, none⟩) k (n + 1) ∧ cv = .int .u64 c ∧
      wr.ownsRow w.heap.size 91 1 (.slice (some ⟨w.heap.size + 1, 0, none⟩) k (n + 1)) k (u32s ys) ∧ Ext w wr ∧ LimbsAt xs k ys c ∧ wr.cell? ⟨w.heap.size, 0, none⟩ = some (.slice A n cap))
    (fun _ _ i _ => n - (intOf i).toNat)
  case atStart => exact ⟨0, 0, [], Nat.zero_le _, rfl, rfl, rfl, hown, hb1, LimbsAt.zero xs, hcell⟩
  case round =>
    obtain ⟨k, c, ys, hk, rfl, rfl, rfl, hown1, hbr, hat, hcell1⟩ := hrel
    by_cases hlt : k < n
    · have hkl : k < xs.length := by omega
      have hxk := hx xs[k] (List.getElem_mem hkl)
      obtain ⟨ad, u, rfl, hb, hu, hcl⟩ := (hr.below hbr).at_ (k := k) hlt
      have hu2 : u = .int .u32 (xs[k] : Int) := by simpa [u32s, hkl] using hu.symm
      subst hu2
      clear hu
      have hsm := hat.small
      obtain ⟨x, hxx⟩ : ∃ x, x = xs[k] := ⟨_, rfl⟩
      rw [← hxx] at hcl hxk
      have HX := Lib.hid hxx
      clear hxx
      go_wp2_with (first | (at_builtin; refine wpList_append_fits _ rfl _ _ 23 rfl w.heap.size 91 i0 1 Tryz.underlying23 hi hz1 (w.heap.size + 1) k (n + 1) (u32s ys) rfl (hown1.alloc _) ⟨wr.heap.size, 0, none⟩ 1 1 [.int .u32 (((c : Int) + x) % 1000000000)] rfl rfl (cell_one_new _ _ _) (ints_oneCell .u32 [_]) (by omega) ?_) | go_in)
      intro w2 hown2 hgrow2
      have hb2 : Ext w w2 := (hbr.alloc hbr.size _).grown hgrow2 (by have := hbr.size; simp; omega) (by simp)
      have hcell2 : w2.cell? ⟨w.heap.size, 0, none⟩ = some (.slice (some ad) n cap) := hgrow2.cell (by rw [World.cell?_alloc_lt _ _ _ (World.block_lt_of_cell? _ _ hcell1)]; exact hcell1) (by simp)
      clear hgrow2 hown1 hcell1
      go_wp2
      go_roundw
      case rel =>
        have hs := hat.step hkl (by rw [← HX.out]; exact hxk)
        rw [← HX.out] at hs
        refine ⟨k + 1, _, _, by omega, by go_num, rfl, ?_, ?_, hb2, hs, hcell2⟩
        · congr 1
        · rw [← u32s_snoc]; exact hown2
      case measure => simp [intOf]; omega
    · obtain rfl : k = n := by omega
      have hdone := Lib.hid (LimbsAt.done (by rw [hl]; exact hat))
      have hsm := hat.small
      have hyl := hat.len
      go_wp2_with (first | (at_builtin; refine wpList_append_fits _ rfl _ _ 23 rfl w.heap.size 91 i0 1 Tryz.underlying23 hi hz1 (w.heap.size + 1) k (k + 1) (u32s ys) rfl (hown1.alloc _) ⟨wr.heap.size, 0, none⟩ 1 1 [.int .u32 (c : Int)] rfl rfl (cell_one_new _ _ _) (ints_oneCell .u32 [_]) (by omega) ?_) | go_in)
      intro w2 hown2 hgrow2
      have hb2 : Ext w w2 := (hbr.alloc hbr.size _).grown hgrow2 (by have := hbr.size; simp; omega) (by simp)
      rw [u32s_snoc] at hown2
      clear hgrow2 hown1 hcell1
      go_wp2_with fail
      refine (trim_u (U32s.of_own hown2 (Nat.le_refl _) (by omega)) (Below.refl _ _) (hat.digs.snoc (by omega))).mono ?_
      rintro e w' ⟨v, rfl, hv, rfl, hob⟩
      rw [hdone.out] at hv
      go_wp2
      go_ret
      exact ⟨_, rfl, hv, hb2, (New.at_ (by omega)).same hob⟩

theorem limbs_n {v : Value} {n : Nat} {w : World} (hv : NatV w v n) : Calls Tryz.prog 42 #[.agg #[v]] w (GivesS w fun w' v => CanV w' v n) := by
  obtain ⟨xs, ⟨A, cap, rfl, h2, h3, h4⟩, hx, hl, rfl⟩ := hv
  exact limbs_any A _ cap xs w h4 hx h2 hl

end Go.Proofs.YtbplkienkhinmaaGreatDoor
namespace Go.Proofs.YtbplkienkhinmaaGreatDoor
open Go.RowKit Num

set_option maxHeartbeats 400000 in
theorem made_any {v : Value} {xs : List Nat} {w : World} {B : Nat} (hv : U32s w v xs) (hd : Digs xs) (hn : New B v) :
    Calls Tryz.prog 43 #[v] w (fun e w' => ∃ A k c, e = .returned (.agg #[.slice A k c]) ∧ CanV w' (.slice A k c) (val xs) ∧ Ext w w' ∧ New B (.slice A k c)) := by
  go_enter Tryz.func43, Tryz.ntmps43
  go_wp2_with fail
  refine (trim_u hv ((Below.refl _ _).alloc (Nat.le_refl _) _) hd).mono ?_
  rintro e w' ⟨v', rfl, hv', rfl, hob⟩
  have hn' := hn.same hob
  obtain ⟨A, cap, rfl, h2, h3, h4⟩ := hv'
  by_cases h0 : (limbsOf (val xs)).length = 0
  · have hz : val xs = 0 := (limbsOf_nil_iff _).1 (List.eq_nil_of_length_eq_zero h0)
    have hb : (((limbsOf (val xs)).length : Int) == 0) = true := by simp [h0]
    have HZ := Lib.hid hz
    clear h0 h4 h2 hz
    go_wp2
    refine bodyPost_ret (v := .agg #[.slice none 0 0]) (by simp [results, Tryz.results43, go_sem]) rfl ?_
    refine ⟨_, _, _, rfl, ?_, ?_, New.nil_ _⟩
    · rw [HZ.out]; exact CanV.nil_ _
    · exact (Below.refl _ _).alloc (Nat.le_refl _) _
  · have hb : (((limbsOf (val xs)).length : Int) == 0) = false := by simpa using h0
    clear h0
    go_wp2
    refine bodyPost_ret (v := .agg #[.slice A (limbsOf (val xs)).length cap]) (by simp [results, Tryz.results43, go_sem]) rfl ?_
    have hx := (Below.refl w.heap.size w).alloc (Nat.le_refl _) (Obj.cells #[Value.slice A (limbsOf (val xs)).length cap] 25)
    exact ⟨_, _, _, rfl, ⟨A, cap, rfl, h2, h3, h4.below hx⟩, hx, hn'⟩


/-- How two numbers compare. -/
def cmpN (a b : Nat) : Int := if a < b then -1 else if b < a then 1 else 0

theorem cmpN_len {a b : Nat} (h : (limbsOf a).length < (limbsOf b).length) : cmpN a b = -1 := by
  have := val_le_of_length (limbsOf_digs a) (limbsOf_top b) h
  rw [val_limbsOf, val_limbsOf] at this
  simp [cmpN, this]
theorem cmpN_len' {a b : Nat} (h : (limbsOf b).length < (limbsOf a).length) : cmpN a b = 1 := by
  have := val_le_of_length (limbsOf_digs b) (limbsOf_top a) h
  rw [val_limbsOf, val_limbsOf] at this
  have h2 : ¬ a < b := by omega
  simp [cmpN, this, h2]

theorem val_drop_lt {a b : List Nat} (ha : Digs a) (hb : Digs b) (hl : a.length = b.length) (k : Nat) (hk : k < a.length) (hd : a.drop (k + 1) = b.drop (k + 1)) (h : a[k] < b[k]'(by omega)) : val a < val b := by
  have ea : a = a.take k ++ (a[k] :: a.drop (k + 1)) := by simp
  have eb : b = b.take k ++ (b[k]'(by omega) :: b.drop (k + 1)) := by simp
  have la : (a.take k).length = k := by simp; omega
  have lb : (b.take k).length = k := by simp; omega
  have h1 := val_lt (ha.take k)
  have va : val a = val (a.take k) + 1000000000 ^ k * (a[k] + 1000000000 * val (a.drop (k + 1))) := by
    conv => lhs; rw [ea]
    rw [val_append, la, val]
  have vb : val b = val (b.take k) + 1000000000 ^ k * (b[k]'(by omega) + 1000000000 * val (b.drop (k + 1))) := by
    conv => lhs; rw [eb]
    rw [val_append, lb, val]
  rw [va, vb, hd]
  rw [la] at h1
  have h2 : 1000000000 ^ k * (a[k] + 1 + 1000000000 * val (b.drop (k + 1))) ≤ 1000000000 ^ k * (b[k]'(by omega) + 1000000000 * val (b.drop (k + 1))) := Nat.mul_le_mul_left _ (by omega)
  rw [show a[k] + 1 + 1000000000 * val (b.drop (k + 1)) = (a[k] + 1000000000 * val (b.drop (k + 1))) + 1 from by omega, Nat.mul_add, Nat.mul_one] at h2
  omega

set_option maxHeartbeats 400000 in
theorem compare_any {u v : Value} {a b : Nat} {w : World} (hu : CanV w u a) (hv : CanV w v b) :
    Calls Tryz.prog 41 #[u, v] w fun e w' => e = .returned (.int .i64 (cmpN a b)) ∧ Ext w w' := by
  obtain ⟨A, cap, rfl, h2, h3, h4⟩ := hu
  obtain ⟨B, cap', rfl, k2, k3, k4⟩ := hv
  have da := limbsOf_digs a
  have db := limbsOf_digs b
  have va := val_limbsOf a
  have vb := val_limbsOf b
  have L1 := @cmpN_len a b
  have L2 := @cmpN_len' a b
  generalize limbsOf a = xs at *
  generalize limbsOf b = ys at *
  by_cases hlt : xs.length < ys.length
  · have H := Lib.hid (L1 hlt)
    have hb : ((xs.length : Int) != (ys.length : Int)) = true := by rw [bne_iff_ne]; omega
    clear L1 L2 va vb
    go_enter Tryz.func41, Tryz.ntmps41
    go_wp2
    go_ret
    exact ⟨ret_int H.out.symm, Below.refl _ _⟩
  by_cases hgt : ys.length < xs.length
  · have H := Lib.hid (L2 hgt)
    have hb : ((xs.length : Int) != (ys.length : Int)) = true := by rw [bne_iff_ne]; omega
    clear L1 L2 va vb
    go_enter Tryz.func41, Tryz.ntmps41
    go_wp2
    go_ret
    exact ⟨ret_int H.out.symm, Below.refl _ _⟩
  have hl : xs.length = ys.length := by omega
  have HL := Lib.hid hl
  clear L1 L2 hlt hgt hl
  have hb : ((xs.length : Int) != (ys.length : Int)) = false := by rw [bne_eq_false_iff_eq]; have := HL.out; omega
  go_enter Tryz.func41, Tryz.ntmps41
  go_wp2
  go_loopw [5] (fun i wr => ∃ k : Nat, k ≤ xs.length ∧ i = .int .i64 ((k : Int) - 1) ∧ xs.drop k = ys.drop k ∧ Ext w wr) (fun i _ => (intOf i + 1).toNat)
  case atStart => exact ⟨xs.length, Nat.le_refl _, rfl, by rw [List.drop_of_length_le (Nat.le_refl _), List.drop_of_length_le (by have := HL.out; omega)], Below.refl _ _⟩
  case round =>
    obtain ⟨k, hk, rfl, hd, hx⟩ := hrel
    cases k with
    | zero =>
      have he : xs = ys := by simpa using hd
      have hab : cmpN a b = 0 := by rw [← va, ← vb, he]; simp [cmpN]
      have H := Lib.hid hab
      clear va vb hab he hd
      go_wp2
      go_ret
      exact ⟨ret_int H.out.symm, hx⟩
    | succ k =>
      have hl := HL.out
      have hkx : k < xs.length := by omega
      have hky : k < ys.length := by omega
      obtain ⟨ad, u, rfl, hb1, hu1, hc1⟩ := (h4.below hx).at_ (k := k) (by omega)
      obtain ⟨bd, v, rfl, hb2, hv1, hc2⟩ := (k4.below hx).at_ (k := k) (by omega)
      have hu2 : u = .int .u32 (xs[k] : Int) := by simpa [u32s, hkx] using hu1.symm
      have hv2 : v = .int .u32 (ys[k] : Int) := by simpa [u32s, hky] using hv1.symm
      subst hu2 hv2
      clear hu1 hv1 hl
      obtain ⟨x, hxx⟩ : ∃ x, x = xs[k] := ⟨_, rfl⟩
      obtain ⟨y, hyy⟩ : ∃ y, y = ys[k] := ⟨_, rfl⟩
      rw [← hxx] at hc1
      rw [← hyy] at hc2
      have HX := Lib.hid hxx
      have HY := Lib.hid hyy
      have HD := Lib.hid hd
      clear hxx hyy hd
      by_cases hxy : x = y
      · subst hxy
        have hb3 : ((x : Int) != (x : Int)) = false := by simp
        go_wp2
        go_quiet (fail)
        go_wp2
        go_roundw
        case rel => exact ⟨k, by omega, by go_num, by rw [List.drop_eq_getElem_cons hkx, List.drop_eq_getElem_cons hky, HD.out, ← HX.out, ← HY.out], hx.drewN _⟩
        case measure => simp [intOf]; try omega
      · have hb3 : ((x : Int) != (y : Int)) = true := by rw [bne_iff_ne]; omega
        by_cases hlt : x < y
        · have h5 : val xs < val ys := val_drop_lt da db HL.out k hkx HD.out (by rw [← HX.out, ← HY.out]; exact hlt)
          have hab : cmpN a b = -1 := by rw [← va, ← vb]; simp [cmpN, h5]
          have H := Lib.hid hab
          clear va vb hab h5
          go_wp2
          go_quiet (fail)
          go_wp2
          go_quiet (fail)
          go_wp2
          go_ret
          exact ⟨ret_int H.out.symm, (hx.drewN _).drewN _⟩
        · have h5 : val ys < val xs := val_drop_lt db da HL.out.symm k hky HD.out.symm (by rw [← HX.out, ← HY.out]; omega)
          have hab : cmpN a b = 1 := by rw [← va, ← vb]; simp [cmpN, h5, Nat.lt_asymm h5]
          have H := Lib.hid hab
          clear va vb hab h5
          go_wp2
          go_quiet (fail)
          go_wp2
          go_quiet (fail)
          go_wp2
          go_ret
          exact ⟨ret_int H.out.symm, (hx.drewN _).drewN _⟩

end Go.Proofs.YtbplkienkhinmaaGreatDoor
