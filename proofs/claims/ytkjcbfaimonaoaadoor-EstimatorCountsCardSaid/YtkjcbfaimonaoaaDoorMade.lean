/- made, compare. -/
import Derived.Test.YtkjcbfaimonaoaaDoorLimbs
import Derived.BigQuiet
import Derived.Deep.QuietTactic
set_option linter.unusedVariables false
set_option linter.unusedSimpArgs false
set_option maxRecDepth 100000
namespace Go.Proofs.YtkjcbfaimonaoaaDoor
open Go.RowKit Num

set_option maxHeartbeats 400000 in
theorem made_any {v : Value} {xs : List Nat} {w : World} {B : Nat} (hv : U32s w v xs) (hd : Digs xs) (hn : New B v) :
    Calls Tryd.prog 69 #[v] w (fun e w' => ∃ A k c, e = .returned (.agg #[.slice A k c]) ∧ CanV w' (.slice A k c) (val xs) ∧ Ext w w' ∧ New B (.slice A k c)) := by
  go_enter Tryd.func69, Tryd.ntmps69
  go_wp2_with fail
  refine (trim_u hv ((Below.refl _ _).alloc (Nat.le_refl _) _) hd).mono ?_
  rintro e w' ⟨v', rfl, hv', rfl, hob⟩
  have hn' := hn.same hob
  obtain ⟨A, cap, rfl, h2, h3, h4⟩ := hv'
  by_cases h0 : (limbsOf (val xs)).length = 0
  · have hz : val xs = 0 := (limbsOf_nil_iff _).1 (List.eq_nil_of_length_eq_zero h0)
    have hb : (((limbsOf (val xs)).length : Int) == 0) = true := by simp [h0]
    have HZ := Lib.hid hz
    clear h0 h4 h2 hz
    go_wp2
    refine bodyPost_ret (v := .agg #[.slice none 0 0]) (by simp [results, Tryd.results69, go_sem]) rfl ?_
    refine ⟨_, _, _, rfl, ?_, ?_, New.nil_ _⟩
    · rw [HZ.out]; exact CanV.nil_ _
    · exact (Below.refl _ _).alloc (Nat.le_refl _) _
  · have hb : (((limbsOf (val xs)).length : Int) == 0) = false := by simpa using h0
    clear h0
    go_wp2
    refine bodyPost_ret (v := .agg #[.slice A (limbsOf (val xs)).length cap]) (by simp [results, Tryd.results69, go_sem]) rfl ?_
    have hx := (Below.refl w.heap.size w).alloc (Nat.le_refl _) (Obj.cells #[Value.slice A (limbsOf (val xs)).length cap] 30)
    exact ⟨_, _, _, rfl, ⟨A, cap, rfl, h2, h3, h4.below hx⟩, hx, hn'⟩


/-- How two numbers compare. -/
def cmpN (a b : Nat) : Int := if a < b then -1 else if b < a then 1 else 0

theorem cmpN_len {a b : Nat} (h : (limbsOf a).length < (limbsOf b).length) : cmpN a b = -1 := by
  have := val_le_of_length (limbsOf_digs a) (limbsOf_top b) h
  rw [val_limbsOf, val_limbsOf] at this
  simp [cmpN, this]
theorem cmpN_len' {a b : Nat} (h : (limbsOf b).length < (limbsOf a).length) : cmpN a b = 1 := by
  have := val_le_of_length (limbsOf_digs b) (limbsOf_top a) h
  rw [val_limbsOf, val_limbsOf] at this
  have h2 : ¬ a < b := by omega
  simp [cmpN, this, h2]

theorem val_drop_lt {a b : List Nat} (ha : Digs a) (hb : Digs b) (hl : a.length = b.length) (k : Nat) (hk : k < a.length) (hd : a.drop (k + 1) = b.drop (k + 1)) (h : a[k] < b[k]'(by omega)) : val a < val b := by
  have ea : a = a.take k ++ (a[k] :: a.drop (k + 1)) := by simp
  have eb : b = b.take k ++ (b[k]'(by omega) :: b.drop (k + 1)) := by simp
  have la : (a.take k).length = k := by simp; omega
  have lb : (b.take k).length = k := by simp; omega
  have h1 := val_lt (ha.take k)
  have va : val a = val (a.take k) + 1000000000 ^ k * (a[k] + 1000000000 * val (a.drop (k + 1))) := by
    conv => lhs; rw [ea]
    rw [val_append, la, val]
  have vb : val b = val (b.take k) + 1000000000 ^ k * (b[k]'(by omega) + 1000000000 * val (b.drop (k + 1))) := by
    conv => lhs; rw [eb]
    rw [val_append, lb, val]
  rw [va, vb, hd]
  rw [la] at h1
  have h2 : 1000000000 ^ k * (a[k] + 1 + 1000000000 * val (b.drop (k + 1))) ≤ 1000000000 ^ k * (b[k]'(by omega) + 1000000000 * val (b.drop (k + 1))) := Nat.mul_le_mul_left _ (by omega)
  rw [show a[k] + 1 + 1000000000 * val (b.drop (k + 1)) = (a[k] + 1000000000 * val (b.drop (k + 1))) + 1 from by omega, Nat.mul_add, Nat.mul_one] at h2
  omega

set_option maxHeartbeats 400000 in
theorem compare_any {u v : Value} {a b : Nat} {w : World} (hu : CanV w u a) (hv : CanV w v b) :
    Calls Tryd.prog 67 #[u, v] w fun e w' => e = .returned (.int .i64 (cmpN a b)) ∧ Ext w w' := by
  obtain ⟨A, cap, rfl, h2, h3, h4⟩ := hu
  obtain ⟨B, cap', rfl, k2, k3, k4⟩ := hv
  have da := limbsOf_digs a
  have db := limbsOf_digs b
  have va := val_limbsOf a
  have vb := val_limbsOf b
  have L1 := @cmpN_len a b
  have L2 := @cmpN_len' a b
  generalize limbsOf a = xs at *
  generalize limbsOf b = ys at *
  by_cases hlt : xs.length < ys.length
  · have H := Lib.hid (L1 hlt)
    have hb : ((xs.length : Int) != (ys.length : Int)) = true := by rw [bne_iff_ne]; omega
    clear L1 L2 va vb
    go_enter Tryd.func67, Tryd.ntmps67
    go_wp2
    go_ret
    exact ⟨ret_int H.out.symm, Below.refl _ _⟩
  by_cases hgt : ys.length < xs.length
  · have H := Lib.hid (L2 hgt)
    have hb : ((xs.length : Int) != (ys.length : Int)) = true := by rw [bne_iff_ne]; omega
    clear L1 L2 va vb
    go_enter Tryd.func67, Tryd.ntmps67
    go_wp2
    go_ret
    exact ⟨ret_int H.out.symm, Below.refl _ _⟩
  have hl : xs.length = ys.length := by omega
  have HL := Lib.hid hl
  clear L1 L2 hlt hgt hl
  have hb : ((xs.length : Int) != (ys.length : Int)) = false := by rw [bne_eq_false_iff_eq]; have := HL.out; omega
  go_enter Tryd.func67, Tryd.ntmps67
  go_wp2
  go_loopw [5] (fun i wr => ∃ k : Nat, k ≤ xs.length ∧ i = .int .i64 ((k : Int) - 1) ∧ xs.drop k = ys.drop k ∧ Ext w wr) (fun i _ => (intOf i + 1).toNat)
  case atStart => exact ⟨xs.length, Nat.le_refl _, rfl, by rw [List.drop_of_length_le (Nat.le_refl _), List.drop_of_length_le (by have := HL.out; omega)], Below.refl _ _⟩
  case round =>
    obtain ⟨k, hk, rfl, hd, hx⟩ := hrel
    cases k with
    | zero =>
      have he : xs = ys := by simpa using hd
      have hab : cmpN a b = 0 := by rw [← va, ← vb, he]; simp [cmpN]
      have H := Lib.hid hab
      clear va vb hab he hd
      go_wp2
      go_ret
      exact ⟨ret_int H.out.symm, hx⟩
    | succ k =>
      have hl := HL.out
      have hkx : k < xs.length := by omega
      have hky : k < ys.length := by omega
      obtain ⟨ad, u, rfl, hb1, hu1, hc1⟩ := (h4.below hx).at_ (k := k) (by omega)
      obtain ⟨bd, v, rfl, hb2, hv1, hc2⟩ := (k4.below hx).at_ (k := k) (by omega)
      have hu2 : u = .int .u32 (xs[k] : Int) := by simpa [u32s, hkx] using hu1.symm
      have hv2 : v = .int .u32 (ys[k] : Int) := by simpa [u32s, hky] using hv1.symm
      subst hu2 hv2
      clear hu1 hv1 hl
      obtain ⟨x, hxx⟩ : ∃ x, x = xs[k] := ⟨_, rfl⟩
      obtain ⟨y, hyy⟩ : ∃ y, y = ys[k] := ⟨_, rfl⟩
      rw [← hxx] at hc1
      rw [← hyy] at hc2
      have HX := Lib.hid hxx
      have HY := Lib.hid hyy
      have HD := Lib.hid hd
      clear hxx hyy hd
      by_cases hxy : x = y
      · subst hxy
        have hb3 : ((x : Int) != (x : Int)) = false := by simp
        go_wp2
        go_quiet (fail)
        go_wp2
        go_roundw
        case rel => exact ⟨k, by omega, by go_num, by rw [List.drop_eq_getElem_cons hkx, List.drop_eq_getElem_cons hky, HD.out, ← HX.out, ← HY.out], hx.drewN _⟩
        case measure => simp [intOf]; try omega
      · have hb3 : ((x : Int) != (y : Int)) = true := by rw [bne_iff_ne]; omega
        by_cases hlt : x < y
        · have h5 : val xs < val ys := val_drop_lt da db HL.out k hkx HD.out (by rw [← HX.out, ← HY.out]; exact hlt)
          have hab : cmpN a b = -1 := by rw [← va, ← vb]; simp [cmpN, h5]
          have H := Lib.hid hab
          clear va vb hab h5
          go_wp2
          go_quiet (fail)
          go_wp2
          go_quiet (fail)
          go_wp2
          go_ret
          exact ⟨ret_int H.out.symm, (hx.drewN _).drewN _⟩
        · have h5 : val ys < val xs := val_drop_lt db da HL.out.symm k hky HD.out.symm (by rw [← HX.out, ← HY.out]; omega)
          have hab : cmpN a b = 1 := by rw [← va, ← vb]; simp [cmpN, h5, Nat.lt_asymm h5]
          have H := Lib.hid hab
          clear va vb hab h5
          go_wp2
          go_quiet (fail)
          go_wp2
          go_quiet (fail)
          go_wp2
          go_ret
          exact ⟨ret_int H.out.symm, (hx.drewN _).drewN _⟩

end Go.Proofs.YtkjcbfaimonaoaaDoor
