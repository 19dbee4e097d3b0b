/- counting: of, falling, binomial. -/
import Derived.Test.YthikgbgmnlmmlaaDoorNatural
import Derived.Test.YthikgbgmnlmmlaaDoorRefOps
import Derived.Test.YthikgbgmnlmmlaaDoorList
import Derived.Test.YthikgbgmnlmmlaaDoorComb
import Derived.Deep.DeepCutAuto
set_option linter.unusedVariables false
set_option linter.unusedSimpArgs false
set_option maxRecDepth 100000
namespace Go.Proofs.YthikgbgmnlmmlaaDoor
open Go.RowKit Num

/-- The answer's box: the call's first block. -/
theorem res_box {w w1 : World} {v u : Value} {n : Nat} (hE : Ext w w1) (h : CanV w1 v n) (hn : New (w.heap.size + 1) v) :
    CanV (w1.setCell ⟨w.heap.size, 0, none⟩ u) v n ∧ Ext w (w1.setCell ⟨w.heap.size, 0, none⟩ u) ∧ New w.heap.size v :=
  ⟨U32s.setNew h hn (Nat.lt_succ_self _) _, hE.setCell (Nat.le_refl _) _, hn.mono (by omega)⟩
theorem box_new {w w1 : World} {v : Value} {t : TypeId} (x1 : Ext (w.alloc (.cells #[v] t)) w1) : w1.cell? ⟨w.heap.size, 0, none⟩ = some v ∧ w1.frozen? ⟨w.heap.size, 0, none⟩ = false :=
  ⟨by rw [x1.cell (p := ⟨w.heap.size, 0, none⟩) (by simp)]; simp [go_sem], by rw [x1.frozen (p := ⟨w.heap.size, 0, none⟩) (by simp)]; simp [go_sem]⟩
theorem ext_new {w w1 : World} {o : Obj} (x1 : Ext (w.alloc o) w1) : Ext w w1 := (ext_alloc (Below.refl _ _) o).trans x1

/-- A box that holds a canonical Natural. -/
def OutB (W : World) (b B n : Nat) (wr : World) : Prop :=
  ∃ A m c, wr.cell? ⟨b, 0, none⟩ = some (.slice A m c) ∧ wr.frozen? ⟨b, 0, none⟩ = false ∧ CanV wr (.slice A m c) n ∧ Ext W wr ∧ New B (.slice A m c)
theorem OutB.ext {W : World} {b B n : Nat} {wr : World} (h : OutB W b B n wr) : Ext W wr := by obtain ⟨_, _, _, _, _, _, h, _⟩ := h; exact h
theorem OutB.start {W : World} {A : Option Addr} {m c n B : Nat} (h : CanV W (.slice A m c) n) (hn : New B (.slice A m c)) (t : TypeId) : OutB W W.heap.size B n (W.alloc (.cells #[.slice A m c] t)) :=
  ⟨A, m, c, by simp [go_sem], by simp [go_sem], h.alloc _, ext_alloc (Below.refl _ _) _, hn⟩
theorem OutB.set {W w6 : World} {A : Option Addr} {m c n B B' b : Nat} {u : Value} (hc : w6.cell? ⟨b, 0, none⟩ = some u) (hf : w6.frozen? ⟨b, 0, none⟩ = false) (h : CanV w6 (.slice A m c) n) (hE : Ext W w6) (hn : New B' (.slice A m c)) (hb : b < B') (hB : B ≤ B') (hW : W.heap.size ≤ b) :
    OutB W b B n (w6.setCell ⟨b, 0, none⟩ (.slice A m c)) :=
  ⟨A, m, c, World.cell?_setCell_same _ _ _ hc, by rw [World.frozen?_setCell]; exact hf, U32s.setNew h hn hb _, ext_set hE hW _, hn.mono hB⟩
theorem fit_small {n : Nat} (h : n < 1000000000) : Fit n := by unfold Fit; have := len_small h; omega

theorem wrap_in {z : Int} (h : -9223372036854775808 ≤ z ∧ z ≤ 9223372036854775807) : IntKind.i64.wrap z = z := by rw [IntKind.wrap_i64]; omega

theorem cof_i {z : Int} {w : World} (h0 : 0 ≤ z) (h1 : z < 9223372036854775808) :
    Calls Tryd.prog 43 #[.int .i64 z] w (GivesN w z.toNat) := by
  obtain ⟨n, rfl⟩ : ∃ n : Nat, z = n := ⟨z.toNat, by omega⟩
  rw [Int.toNat_natCast]
  go_enter Tryd.func43, Tryd.ntmps43
  go_wp2_with fail
  refine (of_n (n := n) (by omega)).mono ?_
  rintro e w1 ⟨A1, k1, c1, rfl, h1, x1, n1⟩
  obtain ⟨z1, zf1⟩ := box_new x1
  have hE := ext_new x1
  simp at n1
  go_wp2
  refine bodyPost_ret (v := .agg #[.slice A1 k1 c1]) (by simp [results, Tryd.results43, go_sem, World.cell?_setCell_same _ _ _ z1]) rfl ?_
  obtain ⟨r1, r2, r3⟩ := res_box (u := .slice A1 k1 c1) hE h1 n1
  exact ⟨_, _, _, rfl, r1, r2, r3⟩

theorem cof_e {z : Int} {m : Nat} {w : World} (he : z = (m : Int)) (h1 : m < 9223372036854775808) :
    Calls Tryd.prog 43 #[.int .i64 z] w (GivesN w m) := by
  subst he
  have := cof_i (z := (m : Int)) (w := w) (by omega) (by omega)
  rwa [Int.toNat_natCast] at this

set_option maxHeartbeats 1000000 in
theorem falling_n {n k : Nat} {w : World} (hn : n ≤ 200) (hk : k ≤ 200) :
    Calls Tryd.prog 51 #[.int .i64 n, .int .i64 k] w (GivesN w (fall n k)) := by
  go_enter Tryd.func51, Tryd.ntmps51
  go_wp2_with fail
  refine (cof_i (z := 1) (by omega) (by omega)).mono ?_
  rintro e w1 ⟨A1, k1, c1, rfl, h1, x1, n1⟩
  obtain ⟨z1, zf1⟩ := box_new x1
  have hE := ext_new x1
  simp at n1
  have hs1 : w.heap.size < w1.heap.size := by have := x1.size; simp at this; omega
  clear x1
  go_wp2
  go_loopw [9] (fun iv wr => ∃ (i : Nat), i ≤ k ∧ iv = .int .i64 i ∧ OutB w1 w1.heap.size (w.heap.size + 1) (fall n i) wr) (fun iv _ => k - (intOf iv).toNat)
  case atStart => exact ⟨0, Nat.zero_le _, rfl, OutB.start h1 n1 _⟩
  case round =>
    obtain ⟨i, hi, rfl, A, m, c, hc, hf, hC, hx, hN⟩ := hrel
    have hb : w1.heap.size < wr.heap.size := World.block_lt_of_cell? _ _ hc
    by_cases hik : i < k
    · have HS := Lib.hid (fun (w' : World) (h : Ext wr w') => (⟨(h.cell (p := ⟨w1.heap.size, 0, none⟩) hb).trans hc, (h.frozen (p := ⟨w1.heap.size, 0, none⟩) hb).trans hf⟩ : w'.cell? ⟨w1.heap.size, 0, none⟩ = some (.slice A m c) ∧ w'.frozen? ⟨w1.heap.size, 0, none⟩ = false))
      have HL := Lib.hid (fall_len (n := n) (by omega) i)
      have HO := Lib.hid (fun (w' : World) (h : Ext wr w') => CanV.nat (hC.below h) (by have := HL.out; unfold Fit; omega))
      have HM := Lib.hid (len_small (x := n - i) (by omega))
      clear hC
      have hw : IntKind.i64.wrap ((n : Int) - (i : Int)) = (n : Int) - (i : Int) := wrap_in (by omega)
      rcases Nat.lt_or_ge n i with hni | hni
      all_goals
        go_upto_region 5 with (fail)
        go_region_law (first
          | (go_simp; go_at_call 43; (with_reducible refine (cof_e (m := n - i) (by omega) (by omega)).mono ?_); rintro e w5 ⟨A5, k5, c5, rfl, h5, x5, n5⟩; have e5 : Ext wr w5 := Ext.trans (by repeat first | assumption | exact Below.refl _ _ | refine ext_alloc ?_ _ | refine ext_drew ?_ | refine ext_set ?_ (by first | omega | (simp; done) | (simp; omega)) _) x5; obtain ⟨cc5, ff5⟩ := HS.out _ e5)
          | (go_simp; go_at_call 24; (with_reducible refine (mul_n (HO.out _ (by repeat first | assumption | exact Below.refl _ _ | refine ext_alloc ?_ _ | refine ext_drew ?_ | refine ext_set ?_ (by first | omega | (simp; done) | (simp; omega)) _)) (NatV.below (CanV.nat h5 (fit_small (by omega))) (by repeat first | assumption | exact Below.refl _ _ | refine ext_alloc ?_ _ | refine ext_drew ?_ | refine ext_set ?_ (by first | omega | (simp; done) | (simp; omega)) _)) (by have := HL.out; have := HM.out; omega)).mono ?_); rintro e w6 ⟨A6, k6, c6, rfl, h6, x6, n6⟩; have e6 : Ext wr w6 := Ext.trans (by repeat first | assumption | exact Below.refl _ _ | refine ext_alloc ?_ _ | refine ext_drew ?_ | refine ext_set ?_ (by first | omega | (simp; done) | (simp; omega)) _) x6; obtain ⟨cc6, ff6⟩ := HS.out _ e6; have y6 := x6.size; have y5 := e5.size; (try simp at y6)))
        all_goals go_wp2
        all_goals go_roundw
        all_goals first
          | (exact ⟨i + 1, by omega, by go_num, by rw [fall_succ]; exact OutB.set cc6 ff6 h6 (hx.trans e6) n6 (by omega) (by omega) (Nat.le_refl _)⟩)
          | (simp [intOf]; omega)
    · obtain rfl : i = k := by omega
      have hc0 := (hx.cell (p := ⟨w.heap.size, 0, none⟩) hs1).trans z1
      have hf0 := (hx.frozen (p := ⟨w.heap.size, 0, none⟩) hs1).trans zf1
      clear z1 zf1
      go_wp2
      refine bodyPost_ret (v := .agg #[.slice A m c]) (by simp [results, Tryd.results51, go_sem, World.cell?_setCell_same _ _ _ hc0]) rfl ?_
      obtain ⟨r1, r2, r3⟩ := res_box (u := .slice A m c) (hE.trans hx) hC hN
      exact ⟨_, _, _, rfl, r1, r2, r3⟩

theorem chs_div (n i : Nat) : chs n i * (n - i) / (i + 1) = chs n (i + 1) := by
  rw [← chs_step]; exact Nat.mul_div_cancel _ (Nat.succ_pos i)
/-- Binomial coefficients, of any numbers. -/
def binI (n : Nat) (k : Int) : Nat := if k < 0 then 0 else chs n k.toNat
theorem binI_out {n : Nat} {k : Int} (h : k < 0 ∨ (n : Int) < k) : binI n k = 0 := by
  unfold binI
  split
  · rfl
  · exact chs_gt _ _ (by omega)
theorem binI_nat (n k : Nat) : binI n (k : Int) = chs n k := by unfold binI; rw [if_neg (by omega), Int.toNat_natCast]

theorem binomial_out {n : Nat} {k : Int} {w : World} (hn : n ≤ 300) (hk : k < 0 ∨ (n : Int) < k) :
    Calls Tryd.prog 41 #[.int .i64 n, .int .i64 k] w (GivesN w 0) := by
  rcases hk with hk | hk
  all_goals
    go_enter Tryd.func41, Tryd.ntmps41
    go_wp2_with fail
    refine (cof_i (z := 0) (by omega) (by omega)).mono ?_
    rintro e w1 ⟨A1, k1, c1, rfl, h1, x1, n1⟩
    obtain ⟨z1, zf1⟩ := box_new x1
    have hE := ext_new x1
    simp at n1
    go_wp2
    refine bodyPost_ret (v := .agg #[.slice A1 k1 c1]) (by simp [results, Tryd.results41, go_sem, World.cell?_setCell_same _ _ _ z1]) rfl ?_
    obtain ⟨r1, r2, r3⟩ := res_box (u := .slice A1 k1 c1) hE h1 n1
    exact ⟨_, _, _, rfl, r1, r2, r3⟩

set_option maxHeartbeats 2000000 in
theorem binomial_in {n k : Nat} {w : World} (hn : n ≤ 300) (hk : k ≤ n) :
    Calls Tryd.prog 41 #[.int .i64 n, .int .i64 k] w (GivesN w (chs n k)) := by
  have hmin : ∃ m, (k ≤ n - k ∧ m = k ∨ n - k < k ∧ m = n - k) := by
    rcases Nat.lt_or_ge (n - k) k with h | h
    · exact ⟨n - k, .inr ⟨h, rfl⟩⟩
    · exact ⟨k, .inl ⟨h, rfl⟩⟩
  obtain ⟨m, hmin⟩ := hmin
  have hfin : chs n k = chs n m := by
    rcases hmin with ⟨_, rfl⟩ | ⟨_, rfl⟩
    · rfl
    · exact chs_symm n k hk
  rw [hfin]
  clear hfin
  have hmn : m ≤ n := by omega
  go_enter Tryd.func41, Tryd.ntmps41
  go_wp2_with fail
  refine (cof_i (z := 1) (by omega) (by omega)).mono ?_
  rintro e w1 ⟨A1, k1, c1, rfl, h1, x1, n1⟩
  obtain ⟨z1, zf1⟩ := box_new x1
  have hE := ext_new x1
  simp at n1
  have hs1 : w.heap.size < w1.heap.size := by have := x1.size; simp at this; omega
  clear x1
  rcases hmin with ⟨hm1, hm2⟩ | ⟨hm1, hm2⟩
  all_goals
    have HM2 := Lib.hid hm2
    clear hm2
  all_goals go_wp2
  all_goals
    go_loopw [21] (fun iv wr => ∃ (i : Nat), i ≤ m ∧ iv = .int .i64 i ∧ OutB w1 w1.heap.size (w.heap.size + 1) (chs n i) wr) (fun iv _ => m - (intOf iv).toNat)
    case atStart => exact ⟨0, Nat.zero_le _, rfl, by rw [chs_zero]; exact OutB.start h1 n1 _⟩
    case round =>
      obtain ⟨i, hi, rfl, A, m0, c, hc, hf, hC, hx, hN⟩ := hrel
      have hb : w1.heap.size < wr.heap.size := World.block_lt_of_cell? _ _ hc
      by_cases him : i < m
      · have HS := Lib.hid (fun (w' : World) (h : Ext wr w') => (⟨(h.cell (p := ⟨w1.heap.size, 0, none⟩) hb).trans hc, (h.frozen (p := ⟨w1.heap.size, 0, none⟩) hb).trans hf⟩ : w'.cell? ⟨w1.heap.size, 0, none⟩ = some (.slice A m0 c) ∧ w'.frozen? ⟨w1.heap.size, 0, none⟩ = false))
        have HL := Lib.hid (chs_len n i)
        have HO := Lib.hid (fun (w' : World) (h : Ext wr w') => CanV.nat (hC.below h) (by have := HL.out; unfold Fit; omega))
        have HM := Lib.hid (len_small (x := n - i) (by omega))
        have HP := Lib.hid (limbsOf_length_mul (chs n i) (n - i))
        have HV := Lib.hid (chs_div n i)
        clear hC
        have hw2 : IntKind.i64.wrap ((i : Int) + 1) = (i : Int) + 1 := wrap_in (by omega)
        have ht1 : i < k := by have := HM2.out; omega
        have ht2 : i + k < n := by have := HM2.out; omega
        have hw : IntKind.i64.wrap ((n : Int) - (i : Int)) = (n : Int) - (i : Int) := wrap_in (by omega)
        go_upto_region 7 with (fail)
        go_region_law (first
          | (go_simp; go_at_call 43; (with_reducible refine (cof_e (m := n - i) (by omega) (by omega)).mono ?_); rintro e w5 ⟨A5, k5, c5, rfl, h5, x5, n5⟩; have e5 : Ext wr w5 := Ext.trans (by repeat first | assumption | exact Below.refl _ _ | refine ext_alloc ?_ _ | refine ext_drew ?_ | refine ext_set ?_ (by first | omega | (simp; done) | (simp; omega)) _) x5; obtain ⟨cc5, ff5⟩ := HS.out _ e5)
          | (go_simp; go_at_call 43; (with_reducible refine (cof_e (m := i + 1) (by omega) (by omega)).mono ?_); rintro e w6 ⟨A6, k6, c6, rfl, h6, x6, n6⟩; have e6 : Ext wr w6 := Ext.trans (by repeat first | assumption | exact Below.refl _ _ | refine ext_alloc ?_ _ | refine ext_drew ?_ | refine ext_set ?_ (by first | omega | (simp; done) | (simp; omega)) _) x6; obtain ⟨cc6, ff6⟩ := HS.out _ e6)
          | (go_simp; go_at_call 24; (with_reducible refine (mul_n (HO.out _ (by repeat first | assumption | exact Below.refl _ _ | refine ext_alloc ?_ _ | refine ext_drew ?_ | refine ext_set ?_ (by first | omega | (simp; done) | (simp; omega)) _)) (NatV.below (CanV.nat h5 (fit_small (by omega))) (by repeat first | assumption | exact Below.refl _ _ | refine ext_alloc ?_ _ | refine ext_drew ?_ | refine ext_set ?_ (by first | omega | (simp; done) | (simp; omega)) _)) (by have := HL.out; have := HM.out; omega)).mono ?_); rintro e w7 ⟨A7, k7, c7, rfl, h7, x7, n7⟩; have e7 : Ext wr w7 := Ext.trans (by repeat first | assumption | exact Below.refl _ _ | refine ext_alloc ?_ _ | refine ext_drew ?_ | refine ext_set ?_ (by first | omega | (simp; done) | (simp; omega)) _) x7; obtain ⟨cc7, ff7⟩ := HS.out _ e7)
          | (go_simp; go_at_call 64; (with_reducible refine (divmod_pos (NatV.below (CanV.nat h7 (by unfold Fit; have := HL.out; have := HM.out; have := HP.out; omega)) (by repeat first | assumption | exact Below.refl _ _ | refine ext_alloc ?_ _ | refine ext_drew ?_ | refine ext_set ?_ (by first | omega | (simp; done) | (simp; omega)) _)) (NatV.below (CanV.nat h6 (fit_small (by omega))) (by repeat first | assumption | exact Below.refl _ _ | refine ext_alloc ?_ _ | refine ext_drew ?_ | refine ext_set ?_ (by first | omega | (simp; done) | (simp; omega)) _)) (Nat.succ_pos i) (by have := HL.out; have := HM.out; have := HP.out; omega)).mono ?_); rintro e w8 ⟨A8, k8, c8, A9, k9, c9, rfl, h8, h9, x8, n8, n9⟩; have e8 : Ext wr w8 := Ext.trans (by repeat first | assumption | exact Below.refl _ _ | refine ext_alloc ?_ _ | refine ext_drew ?_ | refine ext_set ?_ (by first | omega | (simp; done) | (simp; omega)) _) x8; obtain ⟨cc8, ff8⟩ := HS.out _ e8; have y8 := x8.size; have y7 := e7.size; have y6 := e6.size; (try simp at y8)))
        all_goals go_wp2
        all_goals go_roundw
        all_goals first
          | (exact ⟨i + 1, by omega, by go_num, by rw [← HV.out]; exact OutB.set cc8 ff8 h8 (hx.trans e8) n8 (by omega) (by omega) (Nat.le_refl _)⟩)
          | (simp [intOf]; omega)
      · have hie : i = m := by omega
        have hq : n ≤ i + k ∨ k ≤ i := by have := HM2.out; omega
        first | (have hq1 : k ≤ i := by have := HM2.out; omega) | (have hq1 : n ≤ i + k := by have := HM2.out; omega)
        clear hq
        subst hie
        have hc0 := (hx.cell (p := ⟨w.heap.size, 0, none⟩) hs1).trans z1
        have hf0 := (hx.frozen (p := ⟨w.heap.size, 0, none⟩) hs1).trans zf1
        clear z1 zf1
        go_wp2
        refine bodyPost_ret (v := .agg #[.slice A m0 c]) (by simp [results, Tryd.results41, go_sem, World.cell?_setCell_same _ _ _ hc0]) rfl ?_
        obtain ⟨r1, r2, r3⟩ := res_box (u := .slice A m0 c) (hE.trans hx) hC hN
        exact ⟨_, _, _, rfl, r1, r2, r3⟩

end Go.Proofs.YthikgbgmnlmmlaaDoor
