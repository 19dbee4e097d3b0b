/- estimator.Of, coinageref42.Of of a valid list. -/
import Derived.Test.YtfnngchanhnaiaaDoorEOf
set_option linter.unusedVariables false
set_option linter.unusedSimpArgs false
set_option maxRecDepth 100000
namespace Go.Proofs.YtfnngchanhnaiaaDoor
open Go.RowKit Num

theorem chk_ok {l : List Sp} (h1 : AllOk l) (h2 : (ids l).Nodup) : ChkIs l 0 := .inl ⟨h1, h2, rfl⟩
theorem ofN_le (ds : List Int) (N : Nat) : (ofN ds N).length ≤ N := by
  unfold ofN
  exact Nat.le_trans (List.length_filter_le _ _) (by simp)
theorem ofN_one {side : Int} {l : List Sp} (hok : AllOk l) : ofN (dies side l) 1 = [] := by
  rw [ofN_succ, ofN_zero, List.nil_append]
  refine if_pos ?_
  unfold cntD
  rw [List.count_eq_zero.2]
  · rfl
  · intro h
    obtain ⟨s, hs, e⟩ := List.mem_map.1 h
    have h1 := hok s hs
    have h2 := h1.1
    have h3 := h1.2.1
    unfold dieOf at e
    split at e <;> omega
theorem cntD_snoc {side : Int} {l : List Sp} {k n : Nat} {s : Sp} (h : l[k]? = some s) : cntD (dies side (l.take (k + 1))) n = cntD (dies side (l.take k)) n + if dieOf side s = (n : Int) then 1 else 0 := by
  rw [dies_snoc h]
  unfold cntD
  rw [List.count_append, List.count_singleton]
  by_cases hd : dieOf side s = (n : Int)
  · rw [hd]; simp
  · have : (dieOf side s == (n : Int)) = false := by rw [beq_eq_false_iff_ne]; exact hd
    rw [this, if_neg hd]; simp

set_option maxHeartbeats 8000000 in
theorem eof_ok0 {l : List Sp} {A : Option Addr} {c : Nat} {w : World} (hv : SpecsV w (.slice A l.length c) l) (hl : l.length ≤ 64) (h1 : 1 ≤ l.length) (hok : AllOk l) (hnd : (ids l).Nodup) :
    Calls Tryd.prog 6 #[.slice A l.length c, .int .i64 0] w (GivesI w (ofN (dies 0 l) 1000) 0) := by
  have HV := Lib.hid (fun (w' : World) (h : Ext w w') => hv.below h)
  have HC := Lib.hid (scheck_n hv hl (chk_ok hok hnd))
  have HOK := Lib.hid hok
  obtain ⟨n, hn⟩ : ∃ n, n = l.length := ⟨_, rfl⟩
  rw [← hn] at HV HC hl h1 ⊢
  have HN := Lib.hid hn
  have en0 : ((n : Int) == 0) = false := by rw [beq_eq_false_iff_ne]; omega
  have en1 : ¬ ((n : Int) = 0) := by omega
  have en2 : ¬ (n = 0) := by omega
  obtain ⟨i0, hi, hz0, hz1, hz2⟩ := info_parts info_int
  clear hv hok hnd hn
  go_enter Tryd.func6, Tryd.ntmps6
  go_upto_region 8 with (go_at_call 14; (with_reducible refine HC.out.mono ?_); rintro _ U2 ⟨rfl, V2⟩)
  go_upto_region 9 with (at_make; refine wpList_make_full _ rfl _ _ 24 rfl U2.heap.size 3 i0 (.int .i64 0) 1 Tryd.underlying24 hi hz0 hz1 _ _ _ _ 1000 rfl rfl (by omega) (by omega) ?b1 ?b2 ?b3 ?_)
  case b1 => rw [hz2]; omega
  case b2 => unfold maxLen; omega
  case b3 => exact Nat.le_refl _
  intro w4 hown hgrow
  rw [i64l_zerosI, ← cntRow_nil] at hown
  have hb4 : Ext U2 w4 := (Below.refl _ _).grown hgrow (Nat.le_refl _) (by simp)
  have hO1 : OwnI 0 w4 U2.heap.size 1000 (cntRow []) := ownsRow_base hown (Nat.zero_le _)
  obtain ⟨g, hg⟩ : ∃ g, g = U2.heap.size := ⟨_, rfl⟩
  rw [← hg] at hO1
  rw [show (Value.slice (some { block := U2.heap.size, off := 0, spot := none }) 1000 1000) = Value.slice (some ⟨g, 0, none⟩) 1000 1000 from by rw [hg]]
  have hgu : U2.heap.size ≤ g := by omega
  clear hown hgrow hg hi hz0 hz1 hz2
  go_upto_region 9 with (fail)
  go_wp2
  go_loopw [29] (fun iv wr => ∃ k : Nat, k ≤ n ∧ iv = .int .i64 k ∧ Hid (OwnI 0 wr g 1000 (cntRow (dies 0 (l.take k)))) ∧ Ext U2 wr) (fun iv _ => n - (intOf iv).toNat)
  case atStart => exact ⟨0, Nat.zero_le _, rfl, Lib.hid (by rw [List.take_zero]; exact hO1), hb4⟩
  case round =>
    clear hO1 hb4
    obtain ⟨k, hk, rfl, HO, hX⟩ := hrel
    by_cases hkn : k < n
    · obtain ⟨s, hs⟩ : ∃ s, l[k]? = some s := ⟨_, List.getElem?_eq_getElem (by rw [← HN.out]; exact hkn)⟩
      have HSK := Lib.hid hs
      have hsok := HOK.out s (List.mem_of_getElem? hs)
      obtain ⟨b, o, rfl, hb, c0, c1, c2, c3, c4, c5, c6⟩ := (HV.out _ (V2.trans hX)).pl hs
      have hi1 : (0 : Int) ≤ (k : Int) := by omega
      have hi2 : (k : Int) < (n : Int) := by omega
      have hwk : IntKind.i64.wrap ((k : Int) + 1) = (k : Int) + 1 := wrap_in (by omega)
      have HSN := Lib.hid (dies_snoc (side := 0) hs)
      obtain ⟨d, hd⟩ : ∃ d : Nat, s.obv = d := ⟨s.obv.toNat, by have h1 := hsok.1; have h2 := hsok.2.1; omega⟩
      have hd9 : d ≤ 999 := by have h1 := hsok.1; have h2 := hsok.2.1; omega
      have HDD := Lib.hid (show dieOf 0 s = (d : Int) from hd)
      have HSD := Lib.hid hd
      clear hs hsok hd
      go_upto_region 12 with (fail)
      have q0 : (wr.alloc (.cells #[.int .i64 s.id, .int .i64 s.obv, .int .i64 s.rev, .int .i64 s.os, .int .i64 s.rs, .int .i64 s.ax, .int .i64 s.wt] 32)).cell? ⟨wr.heap.size, 0, none⟩ = some (.int .i64 s.id) := by simp [go_sem]
      have q1 : (wr.alloc (.cells #[.int .i64 s.id, .int .i64 s.obv, .int .i64 s.rev, .int .i64 s.os, .int .i64 s.rs, .int .i64 s.ax, .int .i64 s.wt] 32)).cell? ⟨wr.heap.size, 1, none⟩ = some (.int .i64 s.obv) := by simp [go_sem]
      have q2 : (wr.alloc (.cells #[.int .i64 s.id, .int .i64 s.obv, .int .i64 s.rev, .int .i64 s.os, .int .i64 s.rs, .int .i64 s.ax, .int .i64 s.wt] 32)).cell? ⟨wr.heap.size, 2, none⟩ = some (.int .i64 s.rev) := by simp [go_sem]
      have q3 : (wr.alloc (.cells #[.int .i64 s.id, .int .i64 s.obv, .int .i64 s.rev, .int .i64 s.os, .int .i64 s.rs, .int .i64 s.ax, .int .i64 s.wt] 32)).cell? ⟨wr.heap.size, 3, none⟩ = some (.int .i64 s.os) := by simp [go_sem]
      have q4 : (wr.alloc (.cells #[.int .i64 s.id, .int .i64 s.obv, .int .i64 s.rev, .int .i64 s.os, .int .i64 s.rs, .int .i64 s.ax, .int .i64 s.wt] 32)).cell? ⟨wr.heap.size, 4, none⟩ = some (.int .i64 s.rs) := by simp [go_sem]
      have q5 : (wr.alloc (.cells #[.int .i64 s.id, .int .i64 s.obv, .int .i64 s.rev, .int .i64 s.os, .int .i64 s.rs, .int .i64 s.ax, .int .i64 s.wt] 32)).cell? ⟨wr.heap.size, 5, none⟩ = some (.int .i64 s.ax) := by simp [go_sem]
      have q6 : (wr.alloc (.cells #[.int .i64 s.id, .int .i64 s.obv, .int .i64 s.rev, .int .i64 s.os, .int .i64 s.rs, .int .i64 s.ax, .int .i64 s.wt] 32)).cell? ⟨wr.heap.size, 6, none⟩ = some (.int .i64 s.wt) := by simp [go_sem]
      have xB : Ext wr (wr.alloc (.cells #[.int .i64 s.id, .int .i64 s.obv, .int .i64 s.rev, .int .i64 s.os, .int .i64 s.rs, .int .i64 s.ax, .int .i64 s.wt] 32)) := ext_alloc (Below.refl _ _) _
      generalize wr.alloc (.cells #[.int .i64 s.id, .int .i64 s.obv, .int .i64 s.rev, .int .i64 s.os, .int .i64 s.rs, .int .i64 s.ax, .int .i64 s.wt] 32) = WB at *
      rw [HSD.out] at q1
      have HO1 := Lib.hid (HO.out.ext xB)
      obtain ⟨p1, f1⟩ := HO1.out.at_ (cntRow_length _) (show d < 1000 by omega)
      rw [cntRow_at (by omega)] at p1
      have hcl := cntD_le (dies 0 (l.take k)) d
      have hcn := cntD_nonneg (dies 0 (l.take k)) d
      rw [dies_length, List.length_take] at hcl
      have HCR := Lib.hid (cntRow_snoc (ds := dies 0 (l.take k)) (d := d) (by omega))
      obtain ⟨x, hx⟩ : ∃ x, x = cntD (dies 0 (l.take k)) d := ⟨_, rfl⟩
      rw [← hx] at p1 hcl hcn HCR
      have hwx : IntKind.i64.wrap (x + 1) = x + 1 := wrap_in (by omega)
      have hd0 : (0 : Int) ≤ (d : Int) := by omega
      have hd1 : (d : Int) < 1000 := by omega
      clear c0 c1 c2 c3 c4 c5 c6 hx
      go_wp2
      have hP := HO1.out.put (k := d) (x + 1)
      rw [HCR.out, ← HDD.out, ← HSN.out] at hP
      have hXP : Ext U2 (WB.setCell ⟨g, d, none⟩ (.int .i64 (x + 1))) := (hX.trans xB).setCell (p := ⟨g, d, none⟩) hgu _
      have HP := Lib.hid hP
      clear hP
      go_roundw
      case rel => first | exact ⟨k + 1, by omega, by go_num, HP, hXP⟩ | exact ⟨k + 1, by omega, by go_num, HP⟩
      case measure => simp [intOf]; omega
    · obtain rfl : k = n := by omega
      have hkk : ¬ ((k : Int) < (k : Int)) := by omega
      have hO := HO.out
      rw [HN.out, List.take_length] at hO
      have HDZ := Lib.hid (del_zeros hO)
      clear hO HO
      go_wp2_with (go_at_call 15; (with_reducible refine HDZ.out.mono ?_); rintro _ w9 ⟨rfl, hI9, hg9⟩)
      go_ret2
      have hu := V2.size
      exact ⟨_, _, rfl, hI9, V2.trans (Below.grown hX hg9 hX.size (by intro q hq; injection hq with hq; omega)), New.at_ (by omega)⟩

set_option maxHeartbeats 8000000 in
theorem eof_ok1 {l : List Sp} {A : Option Addr} {c : Nat} {w : World} (hv : SpecsV w (.slice A l.length c) l) (hl : l.length ≤ 64) (h1 : 1 ≤ l.length) (hok : AllOk l) (hnd : (ids l).Nodup) :
    Calls Tryd.prog 6 #[.slice A l.length c, .int .i64 1] w (GivesI w (ofN (dies 1 l) 1000) 0) := by
  have HV := Lib.hid (fun (w' : World) (h : Ext w w') => hv.below h)
  have HC := Lib.hid (scheck_n hv hl (chk_ok hok hnd))
  have HOK := Lib.hid hok
  obtain ⟨n, hn⟩ : ∃ n, n = l.length := ⟨_, rfl⟩
  rw [← hn] at HV HC hl h1 ⊢
  have HN := Lib.hid hn
  have en0 : ((n : Int) == 0) = false := by rw [beq_eq_false_iff_ne]; omega
  have en1 : ¬ ((n : Int) = 0) := by omega
  have en2 : ¬ (n = 0) := by omega
  obtain ⟨i0, hi, hz0, hz1, hz2⟩ := info_parts info_int
  clear hv hok hnd hn
  go_enter Tryd.func6, Tryd.ntmps6
  go_upto_region 8 with (go_at_call 14; (with_reducible refine HC.out.mono ?_); rintro _ U2 ⟨rfl, V2⟩)
  go_upto_region 9 with (at_make; refine wpList_make_full _ rfl _ _ 24 rfl U2.heap.size 3 i0 (.int .i64 0) 1 Tryd.underlying24 hi hz0 hz1 _ _ _ _ 1000 rfl rfl (by omega) (by omega) ?b1 ?b2 ?b3 ?_)
  case b1 => rw [hz2]; omega
  case b2 => unfold maxLen; omega
  case b3 => exact Nat.le_refl _
  intro w4 hown hgrow
  rw [i64l_zerosI, ← cntRow_nil] at hown
  have hb4 : Ext U2 w4 := (Below.refl _ _).grown hgrow (Nat.le_refl _) (by simp)
  have hO1 : OwnI 0 w4 U2.heap.size 1000 (cntRow []) := ownsRow_base hown (Nat.zero_le _)
  obtain ⟨g, hg⟩ : ∃ g, g = U2.heap.size := ⟨_, rfl⟩
  rw [← hg] at hO1
  rw [show (Value.slice (some { block := U2.heap.size, off := 0, spot := none }) 1000 1000) = Value.slice (some ⟨g, 0, none⟩) 1000 1000 from by rw [hg]]
  have hgu : U2.heap.size ≤ g := by omega
  clear hown hgrow hg hi hz0 hz1 hz2
  go_upto_region 9 with (fail)
  go_wp2
  go_loopw [29] (fun iv wr => ∃ k : Nat, k ≤ n ∧ iv = .int .i64 k ∧ Hid (OwnI 0 wr g 1000 (cntRow (dies 1 (l.take k)))) ∧ Ext U2 wr) (fun iv _ => n - (intOf iv).toNat)
  case atStart => exact ⟨0, Nat.zero_le _, rfl, Lib.hid (by rw [List.take_zero]; exact hO1), hb4⟩
  case round =>
    clear hO1 hb4
    obtain ⟨k, hk, rfl, HO, hX⟩ := hrel
    by_cases hkn : k < n
    · obtain ⟨s, hs⟩ : ∃ s, l[k]? = some s := ⟨_, List.getElem?_eq_getElem (by rw [← HN.out]; exact hkn)⟩
      have HSK := Lib.hid hs
      have hsok := HOK.out s (List.mem_of_getElem? hs)
      obtain ⟨b, o, rfl, hb, c0, c1, c2, c3, c4, c5, c6⟩ := (HV.out _ (V2.trans hX)).pl hs
      have hi1 : (0 : Int) ≤ (k : Int) := by omega
      have hi2 : (k : Int) < (n : Int) := by omega
      have hwk : IntKind.i64.wrap ((k : Int) + 1) = (k : Int) + 1 := wrap_in (by omega)
      have HSN := Lib.hid (dies_snoc (side := 1) hs)
      obtain ⟨d, hd⟩ : ∃ d : Nat, s.rev = d := ⟨s.rev.toNat, by have h1 := hsok.1; have h2 := hsok.2.1; omega⟩
      have hd9 : d ≤ 999 := by have h1 := hsok.1; have h2 := hsok.2.1; omega
      have HDD := Lib.hid (show dieOf 1 s = (d : Int) from hd)
      have HSD := Lib.hid hd
      clear hs hsok hd
      go_upto_region 12 with (fail)
      have q0 : (wr.alloc (.cells #[.int .i64 s.id, .int .i64 s.obv, .int .i64 s.rev, .int .i64 s.os, .int .i64 s.rs, .int .i64 s.ax, .int .i64 s.wt] 32)).cell? ⟨wr.heap.size, 0, none⟩ = some (.int .i64 s.id) := by simp [go_sem]
      have q1 : (wr.alloc (.cells #[.int .i64 s.id, .int .i64 s.obv, .int .i64 s.rev, .int .i64 s.os, .int .i64 s.rs, .int .i64 s.ax, .int .i64 s.wt] 32)).cell? ⟨wr.heap.size, 1, none⟩ = some (.int .i64 s.obv) := by simp [go_sem]
      have q2 : (wr.alloc (.cells #[.int .i64 s.id, .int .i64 s.obv, .int .i64 s.rev, .int .i64 s.os, .int .i64 s.rs, .int .i64 s.ax, .int .i64 s.wt] 32)).cell? ⟨wr.heap.size, 2, none⟩ = some (.int .i64 s.rev) := by simp [go_sem]
      have q3 : (wr.alloc (.cells #[.int .i64 s.id, .int .i64 s.obv, .int .i64 s.rev, .int .i64 s.os, .int .i64 s.rs, .int .i64 s.ax, .int .i64 s.wt] 32)).cell? ⟨wr.heap.size, 3, none⟩ = some (.int .i64 s.os) := by simp [go_sem]
      have q4 : (wr.alloc (.cells #[.int .i64 s.id, .int .i64 s.obv, .int .i64 s.rev, .int .i64 s.os, .int .i64 s.rs, .int .i64 s.ax, .int .i64 s.wt] 32)).cell? ⟨wr.heap.size, 4, none⟩ = some (.int .i64 s.rs) := by simp [go_sem]
      have q5 : (wr.alloc (.cells #[.int .i64 s.id, .int .i64 s.obv, .int .i64 s.rev, .int .i64 s.os, .int .i64 s.rs, .int .i64 s.ax, .int .i64 s.wt] 32)).cell? ⟨wr.heap.size, 5, none⟩ = some (.int .i64 s.ax) := by simp [go_sem]
      have q6 : (wr.alloc (.cells #[.int .i64 s.id, .int .i64 s.obv, .int .i64 s.rev, .int .i64 s.os, .int .i64 s.rs, .int .i64 s.ax, .int .i64 s.wt] 32)).cell? ⟨wr.heap.size, 6, none⟩ = some (.int .i64 s.wt) := by simp [go_sem]
      have xB : Ext wr (wr.alloc (.cells #[.int .i64 s.id, .int .i64 s.obv, .int .i64 s.rev, .int .i64 s.os, .int .i64 s.rs, .int .i64 s.ax, .int .i64 s.wt] 32)) := ext_alloc (Below.refl _ _) _
      generalize wr.alloc (.cells #[.int .i64 s.id, .int .i64 s.obv, .int .i64 s.rev, .int .i64 s.os, .int .i64 s.rs, .int .i64 s.ax, .int .i64 s.wt] 32) = WB at *
      rw [HSD.out] at q2
      have HO1 := Lib.hid (HO.out.ext xB)
      obtain ⟨p1, f1⟩ := HO1.out.at_ (cntRow_length _) (show d < 1000 by omega)
      rw [cntRow_at (by omega)] at p1
      have hcl := cntD_le (dies 1 (l.take k)) d
      have hcn := cntD_nonneg (dies 1 (l.take k)) d
      rw [dies_length, List.length_take] at hcl
      have HCR := Lib.hid (cntRow_snoc (ds := dies 1 (l.take k)) (d := d) (by omega))
      obtain ⟨x, hx⟩ : ∃ x, x = cntD (dies 1 (l.take k)) d := ⟨_, rfl⟩
      rw [← hx] at p1 hcl hcn HCR
      have hwx : IntKind.i64.wrap (x + 1) = x + 1 := wrap_in (by omega)
      have hd0 : (0 : Int) ≤ (d : Int) := by omega
      have hd1 : (d : Int) < 1000 := by omega
      clear c0 c1 c2 c3 c4 c5 c6 hx
      go_wp2
      have hP := HO1.out.put (k := d) (x + 1)
      rw [HCR.out, ← HDD.out, ← HSN.out] at hP
      have hXP : Ext U2 (WB.setCell ⟨g, d, none⟩ (.int .i64 (x + 1))) := (hX.trans xB).setCell (p := ⟨g, d, none⟩) hgu _
      have HP := Lib.hid hP
      clear hP
      go_roundw
      case rel => first | exact ⟨k + 1, by omega, by go_num, HP, hXP⟩ | exact ⟨k + 1, by omega, by go_num, HP⟩
      case measure => simp [intOf]; omega
    · obtain rfl : k = n := by omega
      have hkk : ¬ ((k : Int) < (k : Int)) := by omega
      have hO := HO.out
      rw [HN.out, List.take_length] at hO
      have HDZ := Lib.hid (del_zeros hO)
      clear hO HO
      go_wp2_with (go_at_call 15; (with_reducible refine HDZ.out.mono ?_); rintro _ w9 ⟨rfl, hI9, hg9⟩)
      go_ret2
      have hu := V2.size
      exact ⟨_, _, rfl, hI9, V2.trans (Below.grown hX hg9 hX.size (by intro q hq; injection hq with hq; omega)), New.at_ (by omega)⟩

set_option maxHeartbeats 8000000 in
theorem rof_ok0 {l : List Sp} {A : Option Addr} {c : Nat} {w : World} (hv : SpecsV w (.slice A l.length c) l) (hl : l.length ≤ 64) (h1 : 1 ≤ l.length) (hok : AllOk l) (hnd : (ids l).Nodup) :
    Calls Tryd.prog 7 #[.slice A l.length c, .int .i64 0] w (GivesI w (ofN (dies 0 l) 1000) 0) := by
  have HV := Lib.hid (fun (w' : World) (h : Ext w w') => hv.below h)
  have HC := Lib.hid (rcheck_n hv hl (chk_ok hok hnd))
  have HOK := Lib.hid hok
  obtain ⟨n, hn⟩ : ∃ n, n = l.length := ⟨_, rfl⟩
  rw [← hn] at HV HC hl h1 ⊢
  have HN := Lib.hid hn
  have en0 : ((n : Int) == 0) = false := by rw [beq_eq_false_iff_ne]; omega
  have en1 : ¬ ((n : Int) = 0) := by omega
  have en2 : ¬ (n = 0) := by omega
  have H1 := Lib.hid (ofN_one (side := 0) hok)
  obtain ⟨i0, hi, hz0, hz1, hz2⟩ := info_parts info_int
  clear hv hok hnd hn
  go_enter Tryd.func7, Tryd.ntmps7
  go_upto_region 8 with (first
    | (go_at_call 17; (with_reducible refine HC.out.mono ?_); rintro _ U2 ⟨rfl, V2⟩)
    | (go_at_call 18; (with_reducible refine (rin_t (n := 0) (by omega) (by omega)).mono ?_); rintro _ s2 ⟨rfl, hs2⟩; obtain rfl : U2 = s2 := hs2.symm))
  go_wp2
  go_loopw [7, 8] (fun ov iv wr => ∃ N : Nat, (1 ≤ N ∧ N ≤ 1000) ∧ iv = .int .i64 N ∧ wr.ownsRow U2.heap.size 3 1 ov (ofN (dies 0 l) N).length (i64l (ofN (dies 0 l) N)) ∧ Ext U2 wr) (fun _ iv _ => 1000 - (intOf iv).toNat)
  case atStart => exact ⟨1, by omega, rfl, by rw [H1.out]; exact World.ownsRow_nil _ _ _ _, Below.refl _ _⟩
  case round =>
    obtain ⟨N, hN, rfl, hown, hX⟩ := hrel
    by_cases hN9 : N ≤ 999
    · have hNl : (N : Int) ≤ 999 := by omega
      have hwN : IntKind.i64.wrap ((N : Int) + 1) = (N : Int) + 1 := wrap_in (by omega)
      have HOWN := Lib.hid hown
      obtain ⟨wo, hwo⟩ : ∃ wo : World, wo = wr := ⟨_, rfl⟩
      subst hwo
      clear hown
      go_wp2
      go_loopw [9, 10] (fun kv iv wr => ∃ i : Nat, i ≤ n ∧ iv = .int .i64 i ∧ kv = .int .i64 (cntD (dies 0 (l.take i)) N) ∧ wr = wo) (fun _ iv _ => n - (intOf iv).toNat)
      case atStart => exact ⟨0, Nat.zero_le _, rfl, rfl, by trivial⟩
      case round =>
        obtain ⟨i, hin, rfl, rfl, rfl⟩ := hrel
        by_cases hik : i < n
        · obtain ⟨s, hs⟩ : ∃ s, l[i]? = some s := ⟨_, List.getElem?_eq_getElem (by rw [← HN.out]; exact hik)⟩
          obtain ⟨b, o, rfl, hb, c0, c1, c2, _⟩ := (HV.out _ (V2.trans hX)).pl hs
          have hi1 : (0 : Int) ≤ (i : Int) := by omega
          have hi2 : (i : Int) < (n : Int) := by omega
          have hwi : IntKind.i64.wrap ((i : Int) + 1) = (i : Int) + 1 := wrap_in (by omega)
          have hcl := cntD_le (dies 0 (l.take i)) N
          have hcn := cntD_nonneg (dies 0 (l.take i)) N
          rw [dies_length, List.length_take] at hcl
          have HCS := Lib.hid (cntD_snoc (side := 0) (n := N) hs)
          obtain ⟨x, hx⟩ : ∃ x, x = cntD (dies 0 (l.take i)) N := ⟨_, rfl⟩
          rw [← hx] at hcl hcn HCS ⊢
          have hwx : IntKind.i64.wrap (x + 1) = x + 1 := wrap_in (by omega)
          clear hx hs
          by_cases he : s.obv = (N : Int)
          · have he1 : (s.obv == (N : Int)) = true := by rw [beq_iff_eq]; exact he
            have HC2 := Lib.hid (show cntD (dies 0 (l.take (i + 1))) N = x + 1 from by rw [HCS.out, if_pos (show dieOf 0 s = (N : Int) from he)])
            have HEE := Lib.hid he
            clear he
            go_wp2
            go_roundw
            case rel => exact ⟨i + 1, by omega, by go_num, by rw [HC2.out], by trivial⟩
            case measure => simp [intOf]; omega
          · have he1 : (s.obv == (N : Int)) = false := by rw [beq_eq_false_iff_ne]; exact he
            have HC2 := Lib.hid (show cntD (dies 0 (l.take (i + 1))) N = x from by rw [HCS.out, if_neg (show ¬ dieOf 0 s = (N : Int) from he), Int.add_zero])
            go_wp2
            go_roundw
            case rel => exact ⟨i + 1, by omega, by go_num, by rw [HC2.out], by trivial⟩
            case measure => simp [intOf]; omega
        · obtain rfl : i = n := by omega
          have hii : ¬ ((i : Int) < (i : Int)) := by omega
          have htk : l.take i = l := by rw [HN.out, List.take_length]
          have hcn := cntD_nonneg (dies 0 l) N
          rw [htk]
          have HSU := Lib.hid (ofN_succ (dies 0 l) N)
          have HLN := Lib.hid (ofN_le (dies 0 l) N)
          obtain ⟨x, hx⟩ : ∃ x, x = cntD (dies 0 l) N := ⟨_, rfl⟩
          rw [← hx] at hcn HSU ⊢
          clear hx htk
          by_cases hx0 : x = 0
          · subst hx0
            have hrow : ofN (dies 0 l) (N + 1) = ofN (dies 0 l) N := by rw [HSU.out, if_pos rfl, List.append_nil]
            have HRW := Lib.hid hrow
            clear hrow hcn
            go_wp2
            go_roundw
            case rel => first | exact ⟨N + 1, by omega, by go_num, by rw [HRW.out]; exact HOWN.out, hX⟩ | exact ⟨N + 1, by omega, by go_num, by rw [HRW.out]; exact HOWN.out⟩
            case measure => simp [intOf]; omega
          · have hgt : (0 : Int) < x := by omega
            have hrow : ofN (dies 0 l) (N + 1) = ofN (dies 0 l) N ++ [x] := by rw [HSU.out, if_neg hx0]
            have HRW := Lib.hid hrow
            clear hrow hcn hx0
            go_wp2_with (at_builtin; refine wpList_append_mine _ (by rfl) (.tmp 60) (.tmp 62) 24 (by rfl) U2.heap.size 3 i0 (.int .i64 0) 1 8 Tryd.underlying24 hi hz0 hz1 hz2 rfl (by omega) _ _ _ (by rfl) (World.ownsRow.kept HOWN.out (Ext.grown (ext_alloc (Below.refl _ _) _)) (by cases u7.ownBlock <;> simp)) ⟨wr.heap.size, 0, none⟩ 1 1 [.int .i64 x] (by rfl) rfl (cell_one wr _ _) (by simp [Value.oneCell']) (by have := HLN.out; unfold maxLen; omega) (by have := HLN.out; omega) (by have := hX.size; simp; omega) ?_; intro v9 w9 ho9 hg9 hw9)
            have hx9 : Ext U2 w9 := Below.grown (hX.trans (ext_alloc (Below.refl _ _) (.cells #[.int .i64 x] 3))) hg9 (by have := hX.size; simp; omega) (fun k hk => (World.ownsRow.lt HOWN.out k hk).1)
            have HO9 := Lib.hid (show w9.ownsRow U2.heap.size 3 1 v9 (ofN (dies 0 l) (N + 1)).length (i64l (ofN (dies 0 l) (N + 1))) from by
              rw [HRW.out, ← i64l_snoc, List.length_append]
              exact ho9)
            clear ho9 hg9 hw9
            go_wp2
            go_roundw
            case rel => first | exact ⟨N + 1, by omega, by go_num, HO9.out, hx9⟩ | exact ⟨N + 1, by omega, by go_num, HO9.out⟩
            case measure => simp [intOf]; omega
    · obtain rfl : N = 1000 := by omega
      have hI := IntsV.of_own hown
      have hNw : New U2.heap.size _ := fun b hb => (World.ownsRow.lt hown b hb).1
      obtain ⟨A9, c9, rfl, _⟩ := id hI
      obtain ⟨m, hm⟩ : ∃ m, m = (ofN (dies 0 l) 1000).length := ⟨_, rfl⟩
      rw [← hm] at hI hNw ⊢
      have HM := Lib.hid hm
      have HI := Lib.hid hI
      have HNW := Lib.hid hNw
      clear hown hI hNw hm
      go_wp2
      go_ret2
      exact ⟨A9, c9, by (try rw [← HM.out]); rfl, by rw [← HM.out]; exact HI.out, V2.trans hX, by rw [← HM.out]; exact HNW.out.mono V2.size⟩

set_option maxHeartbeats 8000000 in
theorem rof_ok1 {l : List Sp} {A : Option Addr} {c : Nat} {w : World} (hv : SpecsV w (.slice A l.length c) l) (hl : l.length ≤ 64) (h1 : 1 ≤ l.length) (hok : AllOk l) (hnd : (ids l).Nodup) :
    Calls Tryd.prog 7 #[.slice A l.length c, .int .i64 1] w (GivesI w (ofN (dies 1 l) 1000) 0) := by
  have HV := Lib.hid (fun (w' : World) (h : Ext w w') => hv.below h)
  have HC := Lib.hid (rcheck_n hv hl (chk_ok hok hnd))
  have HOK := Lib.hid hok
  obtain ⟨n, hn⟩ : ∃ n, n = l.length := ⟨_, rfl⟩
  rw [← hn] at HV HC hl h1 ⊢
  have HN := Lib.hid hn
  have en0 : ((n : Int) == 0) = false := by rw [beq_eq_false_iff_ne]; omega
  have en1 : ¬ ((n : Int) = 0) := by omega
  have en2 : ¬ (n = 0) := by omega
  have H1 := Lib.hid (ofN_one (side := 1) hok)
  obtain ⟨i0, hi, hz0, hz1, hz2⟩ := info_parts info_int
  clear hv hok hnd hn
  go_enter Tryd.func7, Tryd.ntmps7
  go_upto_region 8 with (first
    | (go_at_call 17; (with_reducible refine HC.out.mono ?_); rintro _ U2 ⟨rfl, V2⟩)
    | (go_at_call 18; (with_reducible refine (rin_t (n := 1) (by omega) (by omega)).mono ?_); rintro _ s2 ⟨rfl, hs2⟩; obtain rfl : U2 = s2 := hs2.symm))
  go_wp2
  go_loopw [7, 8] (fun ov iv wr => ∃ N : Nat, (1 ≤ N ∧ N ≤ 1000) ∧ iv = .int .i64 N ∧ wr.ownsRow U2.heap.size 3 1 ov (ofN (dies 1 l) N).length (i64l (ofN (dies 1 l) N)) ∧ Ext U2 wr) (fun _ iv _ => 1000 - (intOf iv).toNat)
  case atStart => exact ⟨1, by omega, rfl, by rw [H1.out]; exact World.ownsRow_nil _ _ _ _, Below.refl _ _⟩
  case round =>
    obtain ⟨N, hN, rfl, hown, hX⟩ := hrel
    by_cases hN9 : N ≤ 999
    · have hNl : (N : Int) ≤ 999 := by omega
      have hwN : IntKind.i64.wrap ((N : Int) + 1) = (N : Int) + 1 := wrap_in (by omega)
      have HOWN := Lib.hid hown
      obtain ⟨wo, hwo⟩ : ∃ wo : World, wo = wr := ⟨_, rfl⟩
      subst hwo
      clear hown
      go_wp2
      go_loopw [9, 10] (fun kv iv wr => ∃ i : Nat, i ≤ n ∧ iv = .int .i64 i ∧ kv = .int .i64 (cntD (dies 1 (l.take i)) N) ∧ wr = wo) (fun _ iv _ => n - (intOf iv).toNat)
      case atStart => exact ⟨0, Nat.zero_le _, rfl, rfl, by trivial⟩
      case round =>
        obtain ⟨i, hin, rfl, rfl, rfl⟩ := hrel
        by_cases hik : i < n
        · obtain ⟨s, hs⟩ : ∃ s, l[i]? = some s := ⟨_, List.getElem?_eq_getElem (by rw [← HN.out]; exact hik)⟩
          obtain ⟨b, o, rfl, hb, c0, c1, c2, _⟩ := (HV.out _ (V2.trans hX)).pl hs
          have hi1 : (0 : Int) ≤ (i : Int) := by omega
          have hi2 : (i : Int) < (n : Int) := by omega
          have hwi : IntKind.i64.wrap ((i : Int) + 1) = (i : Int) + 1 := wrap_in (by omega)
          have hcl := cntD_le (dies 1 (l.take i)) N
          have hcn := cntD_nonneg (dies 1 (l.take i)) N
          rw [dies_length, List.length_take] at hcl
          have HCS := Lib.hid (cntD_snoc (side := 1) (n := N) hs)
          obtain ⟨x, hx⟩ : ∃ x, x = cntD (dies 1 (l.take i)) N := ⟨_, rfl⟩
          rw [← hx] at hcl hcn HCS ⊢
          have hwx : IntKind.i64.wrap (x + 1) = x + 1 := wrap_in (by omega)
          clear hx hs
          by_cases he : s.rev = (N : Int)
          · have he1 : (s.rev == (N : Int)) = true := by rw [beq_iff_eq]; exact he
            have HC2 := Lib.hid (show cntD (dies 1 (l.take (i + 1))) N = x + 1 from by rw [HCS.out, if_pos (show dieOf 1 s = (N : Int) from he)])
            have HEE := Lib.hid he
            clear he
            go_wp2
            go_roundw
            case rel => exact ⟨i + 1, by omega, by go_num, by rw [HC2.out], by trivial⟩
            case measure => simp [intOf]; omega
          · have he1 : (s.rev == (N : Int)) = false := by rw [beq_eq_false_iff_ne]; exact he
            have HC2 := Lib.hid (show cntD (dies 1 (l.take (i + 1))) N = x from by rw [HCS.out, if_neg (show ¬ dieOf 1 s = (N : Int) from he), Int.add_zero])
            go_wp2
            go_roundw
            case rel => exact ⟨i + 1, by omega, by go_num, by rw [HC2.out], by trivial⟩
            case measure => simp [intOf]; omega
        · obtain rfl : i = n := by omega
          have hii : ¬ ((i : Int) < (i : Int)) := by omega
          have htk : l.take i = l := by rw [HN.out, List.take_length]
          have hcn := cntD_nonneg (dies 1 l) N
          rw [htk]
          have HSU := Lib.hid (ofN_succ (dies 1 l) N)
          have HLN := Lib.hid (ofN_le (dies 1 l) N)
          obtain ⟨x, hx⟩ : ∃ x, x = cntD (dies 1 l) N := ⟨_, rfl⟩
          rw [← hx] at hcn HSU ⊢
          clear hx htk
          by_cases hx0 : x = 0
          · subst hx0
            have hrow : ofN (dies 1 l) (N + 1) = ofN (dies 1 l) N := by rw [HSU.out, if_pos rfl, List.append_nil]
            have HRW := Lib.hid hrow
            clear hrow hcn
            go_wp2
            go_roundw
            case rel => first | exact ⟨N + 1, by omega, by go_num, by rw [HRW.out]; exact HOWN.out, hX⟩ | exact ⟨N + 1, by omega, by go_num, by rw [HRW.out]; exact HOWN.out⟩
            case measure => simp [intOf]; omega
          · have hgt : (0 : Int) < x := by omega
            have hrow : ofN (dies 1 l) (N + 1) = ofN (dies 1 l) N ++ [x] := by rw [HSU.out, if_neg hx0]
            have HRW := Lib.hid hrow
            clear hrow hcn hx0
            go_wp2_with (at_builtin; refine wpList_append_mine _ (by rfl) (.tmp 60) (.tmp 62) 24 (by rfl) U2.heap.size 3 i0 (.int .i64 0) 1 8 Tryd.underlying24 hi hz0 hz1 hz2 rfl (by omega) _ _ _ (by rfl) (World.ownsRow.kept HOWN.out (Ext.grown (ext_alloc (Below.refl _ _) _)) (by cases u7.ownBlock <;> simp)) ⟨wr.heap.size, 0, none⟩ 1 1 [.int .i64 x] (by rfl) rfl (cell_one wr _ _) (by simp [Value.oneCell']) (by have := HLN.out; unfold maxLen; omega) (by have := HLN.out; omega) (by have := hX.size; simp; omega) ?_; intro v9 w9 ho9 hg9 hw9)
            have hx9 : Ext U2 w9 := Below.grown (hX.trans (ext_alloc (Below.refl _ _) (.cells #[.int .i64 x] 3))) hg9 (by have := hX.size; simp; omega) (fun k hk => (World.ownsRow.lt HOWN.out k hk).1)
            have HO9 := Lib.hid (show w9.ownsRow U2.heap.size 3 1 v9 (ofN (dies 1 l) (N + 1)).length (i64l (ofN (dies 1 l) (N + 1))) from by
              rw [HRW.out, ← i64l_snoc, List.length_append]
              exact ho9)
            clear ho9 hg9 hw9
            go_wp2
            go_roundw
            case rel => first | exact ⟨N + 1, by omega, by go_num, HO9.out, hx9⟩ | exact ⟨N + 1, by omega, by go_num, HO9.out⟩
            case measure => simp [intOf]; omega
    · obtain rfl : N = 1000 := by omega
      have hI := IntsV.of_own hown
      have hNw : New U2.heap.size _ := fun b hb => (World.ownsRow.lt hown b hb).1
      obtain ⟨A9, c9, rfl, _⟩ := id hI
      obtain ⟨m, hm⟩ : ∃ m, m = (ofN (dies 1 l) 1000).length := ⟨_, rfl⟩
      rw [← hm] at hI hNw ⊢
      have HM := Lib.hid hm
      have HI := Lib.hid hI
      have HNW := Lib.hid hNw
      clear hown hI hNw hm
      go_wp2
      go_ret2
      exact ⟨A9, c9, by (try rw [← HM.out]); rfl, by rw [← HM.out]; exact HI.out, V2.trans hX, by rw [← HM.out]; exact HNW.out.mono V2.size⟩

end Go.Proofs.YtfnngchanhnaiaaDoor
