/- times. -/
import Derived.Test.YtkjcbfaimonaoaaDoorMinus
set_option linter.unusedVariables false
set_option linter.unusedSimpArgs false
set_option maxRecDepth 100000
namespace Go.Proofs.YtkjcbfaimonaoaaDoor
open Go.RowKit Num

/-- The rows of 'times' behind i rounds. -/
structure TimesAt (xs ys : List Nat) (i : Nat) (os : List Nat) : Prop where
  len : os.length = xs.length + ys.length
  digs : Digs os
  eq : val (os.take (i + ys.length)) = val (xs.take i) * val ys
  zero : ∀ p, i + ys.length ≤ p → os.getD p 0 = 0

/-- Within row i, behind j rounds: os the row's start. -/
structure RowAt (x : Nat) (ys os : List Nat) (i j : Nat) (qs : List Nat) (c : Nat) : Prop where
  len : qs.length = os.length
  digs : Digs qs
  small : c < 1000000000
  eq : val (qs.take (i + j)) + 1000000000 ^ (i + j) * c = val (os.take (i + j)) + 1000000000 ^ i * (x * val (ys.take j))
  rest : ∀ p, i + j ≤ p → qs.getD p 0 = os.getD p 0

theorem getD_set_ne (l : List Nat) {p q : Nat} (v : Nat) (h : p ≠ q) : (l.set p v).getD q 0 = l.getD q 0 := by
  simp [List.getD, List.getElem?_set, h]
theorem getD_set_eq (l : List Nat) {p : Nat} (v : Nat) (h : p < l.length) : (l.set p v).getD p 0 = v := by
  simp [List.getD, h]
theorem take_set_le (l : List Nat) {p k : Nat} (v : Nat) (h : k ≤ p) : (l.set p v).take k = l.take k := by
  rw [List.take_set_of_le h]
theorem Num.Digs.set {l : List Nat} (h : Digs l) (p : Nat) {v : Nat} (hv : v < 1000000000) : Digs (l.set p v) := by
  intro x hx
  rcases List.mem_or_eq_of_mem_set hx with hx | rfl
  · exact h x hx
  · exact hv

theorem TimesAt.start (xs ys : List Nat) : TimesAt xs ys 0 (List.replicate (xs.length + ys.length) 0) :=
  ⟨by simp, fun x hx => by simp at hx; omega, by simp [val, List.take_replicate, val_zeros], fun p _ => by simp [List.getD, List.getElem?_replicate]; split <;> rfl⟩

theorem RowAt.start {xs ys os : List Nat} {i x : Nat} (h : TimesAt xs ys i os) : RowAt x ys os i 0 os 0 :=
  ⟨rfl, h.digs, by omega, by simp [val], fun _ _ => rfl⟩

theorem RowAt.bound {x : Nat} {ys os qs : List Nat} {i j c : Nat} (h : RowAt x ys os i j qs c) (hy : Digs ys) (hx : x < 1000000000) :
    c + (x * ys.getD j 0 + qs.getD (i + j) 0) < 1000000000 * 1000000000 := by
  have h1 := hy.getD j
  have h2 := h.digs.getD (i + j)
  have h3 := h.small
  have h4 : x * ys.getD j 0 ≤ 999999999 * 999999999 := Nat.mul_le_mul (by omega) (by omega)
  omega

theorem RowAt.step {x : Nat} {ys os qs : List Nat} {i j c : Nat} (h : RowAt x ys os i j qs c) (hy : Digs ys) (hx : x < 1000000000) (hl : i + j < os.length) :
    RowAt x ys os i (j + 1) (qs.set (i + j) ((c + (x * ys.getD j 0 + qs.getD (i + j) 0)) % 1000000000)) ((c + (x * ys.getD j 0 + qs.getD (i + j) 0)) / 1000000000) := by
  have hb := h.bound hy hx
  obtain ⟨h1, h2, h3, h4, h5⟩ := h
  refine ⟨by simp [h1], h2.set _ (by omega), by omega, ?_, ?_⟩
  · have e0 := h5 (i + j) (Nat.le_refl _)
    rw [show i + (j + 1) = (i + j) + 1 from rfl, getD_take_succ, getD_take_succ, getD_take_succ, getD_set_eq _ _ (by omega), take_set_le _ _ (Nat.le_refl _), ← e0]
    generalize qs.getD (i + j) 0 = q at *
    generalize ys.getD j 0 = y at *
    have e : c + (x * y + q) = (c + (x * y + q)) % 1000000000 + 1000000000 * ((c + (x * y + q)) / 1000000000) := by omega
    have e3 : 1000000000 ^ (i + j) * (c + (x * y + q)) = 1000000000 ^ (i + j) * ((c + (x * y + q)) % 1000000000) + 1000000000 ^ (i + j) * 1000000000 * ((c + (x * y + q)) / 1000000000) := by
      rw [Nat.mul_assoc, ← Nat.mul_add, ← e]
    rw [Nat.pow_succ]
    have e4 : 1000000000 ^ i * (x * (val (ys.take j) + 1000000000 ^ j * y)) = 1000000000 ^ i * (x * val (ys.take j)) + 1000000000 ^ (i + j) * (x * y) := by
      rw [Nat.mul_add, Nat.mul_add, Nat.pow_add]
      congr 1
      rw [Nat.mul_left_comm x, Nat.mul_assoc]
    rw [e4]
    rw [Nat.mul_add, Nat.mul_add] at e3
    omega
  · intro p hp
    rw [getD_set_ne _ _ (by omega)]
    exact h5 p (by omega)

theorem RowAt.done {xs ys os qs : List Nat} {i c : Nat} (ht : TimesAt xs ys i os) (h : RowAt (xs.getD i 0) ys os i ys.length qs c) (hi : i < xs.length) :
    TimesAt xs ys (i + 1) (qs.set (i + ys.length) c) := by
  obtain ⟨h1, h2, h3, h4, h5⟩ := h
  obtain ⟨t1, t2, t3, t4⟩ := ht
  refine ⟨by simp [h1, t1], h2.set _ h3, ?_, ?_⟩
  · rw [show i + 1 + ys.length = (i + ys.length) + 1 from by omega, getD_take_succ, getD_take_succ, getD_set_eq _ _ (by omega), take_set_le _ _ (Nat.le_refl _), h4, t3, List.take_length, Nat.add_mul, Nat.mul_assoc]
  · intro p hp
    rw [getD_set_ne _ _ (by omega), h5 p (by omega)]
    exact t4 p (by omega)

theorem TimesAt.done {xs ys os : List Nat} (h : TimesAt xs ys xs.length os) : val os = val xs * val ys := by
  have := h.eq
  rwa [← h.len, List.take_length, List.take_length] at this

theorem u32s_replicate (n : Nat) : (madeCells #[Value.int .u32 0] n).toList = u32s (List.replicate n 0) := by
  rw [toList_madeCells_one]
  simp [u32s]
theorem u32s_get (xs : List Nat) (j : Nat) (h : j < xs.length) : (u32s xs)[j]? = some (.int .u32 (xs.getD j 0 : Nat)) := by simp [u32s, List.getD, h]
theorem u32s_set (xs : List Nat) (j : Nat) (x : Nat) : (u32s xs).set j (.int .u32 (x : Int)) = u32s (xs.set j x) := by simp [u32s, List.map_set]

set_option maxHeartbeats 2000000 in
theorem times_core {A B : Option Addr} {cap cap' : Nat} {xs ys : List Nat} {w : World} (h2 : xs.length ≤ cap) (h3 : cap ≤ 9223372036854775807) (h4 : Reads w 1 A xs.length (u32s xs))
    (k2 : ys.length ≤ cap') (k3 : cap' ≤ 9223372036854775807) (k4 : Reads w 1 B ys.length (u32s ys)) (hx : Digs xs) (hy : Digs ys) (hbig : xs.length + ys.length ≤ 8796093022208) :
    Calls Tryd.prog 70 #[.slice A xs.length cap, .slice B ys.length cap'] w (GivesS w fun w' r => CanV w' r (val xs * val ys)) := by
  obtain ⟨i0, hi, hz0, hz1, hz2⟩ := info_parts info_u32
  go_enter Tryd.func70, Tryd.ntmps70
  go_wp2_with (first | (at_make; refine wpList_make_full _ rfl _ _ 28 rfl w.heap.size 70 i0 (.int .u32 0) 1 Tryd.underlying28 hi hz0 hz1 _ _ _ _ (xs.length + ys.length) rfl rfl (by omega) (by omega) ?b1 ?b2 ?b3 ?_) | go_in)
  case b1 => rw [hz2]; omega
  case b2 => unfold maxLen; omega
  case b3 => exact Nat.le_refl _
  intro w1 hown hgrow
  rw [u32s_replicate] at hown
  have hb1 : Ext w w1 := (Below.refl _ _).grown hgrow (Nat.le_refl _) (by simp)
  clear hgrow
  go_wp2
  go_loopw [19] (fun i wr => ∃ (k : Nat) (os : List Nat), k ≤ xs.length ∧ i = .int .i64 k ∧
      wr.ownsRow w.heap.size 70 1 (.slice (some ⟨w.heap.size, 0, none⟩) (xs.length + ys.length) (xs.length + ys.length)) (xs.length + ys.length) (u32s os) ∧ Ext w wr ∧ TimesAt xs ys k os)
    (fun i _ => xs.length - (intOf i).toNat)
  case atStart => exact ⟨0, _, Nat.zero_le _, rfl, hown, hb1, TimesAt.start xs ys⟩
  case round =>
    obtain ⟨i, os, hk, rfl, hown1, hbr, hat⟩ := hrel
    obtain ⟨wo, hwo⟩ : ∃ wo : World, wo = wr := ⟨_, rfl⟩
    subst hwo
    by_cases hlt : i < xs.length
    · have hxk := hx.getD i
      obtain ⟨ad, u, rfl, hb, hu, hcl⟩ := (h4.below hbr).at_ (k := i) hlt
      have hu2 : u = .int .u32 (xs.getD i 0 : Nat) := by simpa [u32s, List.getD, hlt] using hu.symm
      subst hu2
      clear hu
      obtain ⟨x, hxx⟩ : ∃ x, x = xs.getD i 0 := ⟨_, rfl⟩
      rw [← hxx] at hcl hxk
      have HX := Lib.hid hxx
      clear hxx
      have hol := Lib.hid hat.len
      go_wp2
      go_loopw [8, 26] (fun cv jv wr => ∃ (j c : Nat) (qs : List Nat), j ≤ ys.length ∧ jv = .int .i64 j ∧ cv = .int .u64 c ∧
          wr.ownsRow w.heap.size 70 1 (.slice (some ⟨w.heap.size, 0, none⟩) (xs.length + ys.length) (xs.length + ys.length)) (xs.length + ys.length) (u32s qs) ∧ Ext w wr ∧ RowAt x ys os i j qs c)
        (fun _ jv _ => ys.length - (intOf jv).toNat)
      case atStart => exact ⟨0, 0, os, Nat.zero_le _, rfl, rfl, hown1, hbr, RowAt.start hat⟩
      case round =>
        obtain ⟨j, c, qs, hj, rfl, rfl, hown2, hb2, hrow⟩ := hrel
        have hql : qs.length = xs.length + ys.length := by rw [hrow.len, hol.out]
        by_cases hjl : j < ys.length
        · have hyj := hy.getD j
          obtain ⟨bd, u, rfl, hb3, hu, hcl2⟩ := (k4.below hb2).at_ (k := j) hjl
          have hu2 : u = .int .u32 (ys.getD j 0 : Nat) := by simpa [u32s, List.getD, hjl] using hu.symm
          subst hu2
          clear hu
          have hqj := hrow.digs.getD (i + j)
          have hsm := hrow.small
          have hcq : wr.cell? ⟨w.heap.size, i + j, none⟩ = some (.int .u32 (qs.getD (i + j) 0 : Nat)) := by rw [hown2.cellAt (i + j) (by omega), u32s_get qs _ (by omega)]
          have hfq : wr.frozen? ⟨w.heap.size, i + j, none⟩ = false := hown2.frozenAt _
          have hbd := hrow.bound hy hxk
          have hst := Lib.hid (hrow.step hy hxk (by rw [hol.out]; omega))
          clear hrow
          have HQ := Lib.hid hql
          clear hql
          generalize ys.getD j 0 = y at *
          generalize qs.getD (i + j) 0 = q at *
          have hxy : x * y ≤ 999999999 * 999999999 := Nat.mul_le_mul (by omega) (by omega)
          have hxy1 : (x : Int) * (y : Int) ≤ 999999998000000001 := by have := Int.ofNat_le.2 hxy; simpa using this
          have hxy0 : 0 ≤ (x : Int) * (y : Int) := Int.mul_nonneg (by omega) (by omega)
          clear hxy hbd
          go_wp2
          go_roundw
          case rel =>
            have hs := (hown2.stored (i + j) (.int .u32 (((c : Int) + ((x : Int) * (y : Int) + q)) % 1000000000))).1
            have e : (((c : Int) + ((x : Int) * (y : Int) + q)) % 1000000000) = (((c + (x * y + q)) % 1000000000 : Nat) : Int) := by simp
            rw [e, u32s_set] at hs
            exact ⟨j + 1, _, _, by omega, by go_num, by go_num, by rw [e]; exact hs, hb2.setCell (Nat.le_refl _) _, hst.out⟩
          case measure => simp [intOf]; try omega
        · obtain rfl : j = ys.length := by omega
          have hcq : wr.cell? ⟨w.heap.size, i + ys.length, none⟩ = some (.int .u32 (qs.getD (i + ys.length) 0 : Nat)) := by rw [hown2.cellAt (i + ys.length) (by omega), u32s_get qs _ (by omega)]
          have hfq : wr.frozen? ⟨w.heap.size, i + ys.length, none⟩ = false := hown2.frozenAt _
          have hsm := hrow.small
          have hdn := Lib.hid (RowAt.done hat (by rw [← HX.out]; exact hrow) hlt)
          clear hrow hql
          go_wp2
          go_roundw
          case rel =>
            have hs := (hown2.stored (i + ys.length) (.int .u32 (c : Int))).1
            rw [u32s_set] at hs
            exact ⟨i + 1, _, by omega, by go_num, hs, hb2.setCell (Nat.le_refl _) _, hdn.out⟩
          case measure => simp [intOf]; try omega
    · obtain rfl : i = xs.length := by omega
      have hdone := Lib.hid hat.done
      go_wp2_with fail
      refine (trim_u (U32s.of_own hown1 (Nat.le_refl _) (by omega)) (Below.refl _ _) hat.digs).mono ?_
      rintro e w' ⟨v, rfl, hv, rfl, hob⟩
      rw [hdone.out] at hv
      go_wp2
      go_ret
      exact ⟨_, rfl, hv, hbr, (New.at_ (Nat.le_refl _)).same hob⟩

theorem times_any {u v : Value} {a b : Nat} {w : World} (hu : CanV w u a) (hv : CanV w v b) (hl : (limbsOf a).length + (limbsOf b).length ≤ 8796093022208) :
    Calls Tryd.prog 70 #[u, v] w (GivesS w fun w' r => CanV w' r (a * b)) := by
  obtain ⟨A, cap, rfl, h2, h3, h4⟩ := hu
  obtain ⟨B, cap', rfl, k2, k3, k4⟩ := hv
  have := times_core h2 h3 h4 k2 k3 k4 (limbsOf_digs a) (limbsOf_digs b) hl
  rwa [val_limbsOf, val_limbsOf] at this

end Go.Proofs.YtkjcbfaimonaoaaDoor
