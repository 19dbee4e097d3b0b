/- ref03.RankSet; what both say of any list. -/
import Derived.Test.YthikgbgmnlmmlaaDoorRankB
set_option linter.unusedVariables false
set_option linter.unusedSimpArgs false
set_option maxRecDepth 100000
namespace Go.Proofs.YthikgbgmnlmmlaaDoor
open Go.RowKit Num

theorem rbin_e {z k : Int} {m j : Nat} {w : World} (hz : z = (m : Int)) (hk : k = (j : Int)) (hm : m ≤ 300) :
    Calls Tryd.prog 14 #[.int .i64 z, .int .i64 k] w (GivesT w (chs m j) 0) := by
  subst hz hk
  by_cases h : m < j
  · rw [chs_gt _ _ h]; exact rbin_out hm (.inr (by omega))
  · exact rbin_in hm (by omega)

theorem rrank_range {n : Int} {v : Value} {w : World} (h' : n < 0 ∨ 64 < n) (hv : ∃ A k c, v = .slice A k c) :
    Calls Tryd.prog 17 #[.int .i64 n, v] w (GivesT w 0 2) := by
  obtain ⟨A, k, c, rfl⟩ := hv
  rcases h' with h' | h'
  all_goals
    go_enter Tryd.func17, Tryd.ntmps17
    go_wp2
    refine bodyPost_ret (v := .tuple #[.agg #[.slice none 0 0], .int .i64 2]) (by simp [results, Tryd.results17, go_sem]) rfl ?_
    exact GivesT.zero

set_option maxHeartbeats 2000000 in
theorem rrank_bad {n cap : Nat} {A : Option Addr} {zs : List Int} {w : World} (hn : n ≤ 64) (hr : Reads w 1 A zs.length (i64s zs)) (hbad : ¬ okAll n zs) (hlen : zs.length ≤ 70368744177664) :
    Calls Tryd.prog 17 #[.int .i64 n, .slice A zs.length cap] w (GivesT w 0 1) := by
  have hx0 : Ext w (w.alloc (.cells #[.slice none 0 0] 25)) := ext_alloc (Below.refl _ _) _
  have HC := Lib.hid (asc_any (b := false) (cap := cap) (n := (n : Int)) (by omega) (hr.below hx0) (by simpa using hbad) hlen)
  clear hr hbad hx0
  go_enter Tryd.func17, Tryd.ntmps17
  go_wp2_with (go_at_call 37; (with_reducible refine HC.out.mono ?_); rintro e w1 ⟨rfl, x1⟩; obtain ⟨z1, zf1⟩ := box_new x1; have hE := ext_new x1)
  refine bodyPost_ret (v := .tuple #[.agg #[.slice none 0 0], .int .i64 1]) (by simp [results, Tryd.results17, go_sem, World.cell?_setCell_same _ _ _ z1]) rfl ?_
  exact GivesT.box hE (CanV.nil_ _) (New.nil_ _)

set_option maxHeartbeats 4000000 in
theorem rrank_good {n cap : Nat} {A : Option Addr} {cs : List Nat} {w : World} (hn : n ≤ 64) (hr : Reads w 1 A (ints cs).length (i64s (ints cs))) (hasc : Asc n 0 cs) (hlen : cs.length ≤ 70368744177664) :
    Calls Tryd.prog 17 #[.int .i64 n, .slice A cs.length cap] w (GivesT w (rankFrom n 0 cs) 0) := by
  have hx0 : Ext w (w.alloc (.cells #[.slice none 0 0] 25)) := ext_alloc (Below.refl _ _) _
  have HC0 := asc_any (b := true) (cap := cap) (n := (n : Int)) (by omega) (hr.below hx0) (by simpa using ok_of_asc hasc) (by rw [ints_length]; exact hlen)
  rw [ints_length] at HC0
  have HC := Lib.hid HC0
  clear HC0
  have HR := Lib.hid hr
  have HA := Lib.hid hasc
  have HT := Lib.hid (rankFrom_lt n cs 0 (Nat.zero_le _) hasc)
  clear hr hasc hx0
  generalize hq : rankFrom n 0 cs = total at *
  have HQ := Lib.hid hq
  clear hq
  go_enter Tryd.func17, Tryd.ntmps17
  go_wp2_with (go_at_call 37; (with_reducible refine HC.out.mono ?_); rintro e w1 ⟨rfl, x1⟩; obtain ⟨z1, zf1⟩ := box_new x1; have hE := ext_new x1)
  have hs1 : w.heap.size < w1.heap.size := by have := x1.size; simp at this; omega
  have hO := OutB.start (B := w.heap.size + 1) (CanV.nil_ w1) (New.nil_ _) 25
  clear x1 HC
  go_loopw [8, 7] (fun iv lv wr => ∃ (i lo acc : Nat), i ≤ cs.length ∧ iv = .int .i64 i ∧ lv = .int .i64 lo ∧ lo ≤ n ∧ Asc n lo (cs.drop i) ∧ acc + rankFrom n lo (cs.drop i) = total ∧ OutB w1 w1.heap.size (w.heap.size + 1) acc wr)
    (fun iv _ _ => cs.length - (intOf iv).toNat)
  case atStart => exact ⟨0, 0, 0, Nat.zero_le _, rfl, rfl, Nat.zero_le _, HA.out, by rw [List.drop_zero, HQ.out]; omega, hO⟩
  case round =>
    clear hO
    obtain ⟨i, lo, acc, hi, rfl, rfl, hlo, hasc, hsum, hO⟩ := hrel
    by_cases hil : i < cs.length
    · obtain ⟨ad, hA, _, _⟩ := reads_i64 (HR.out.below (hE.trans hO.ext)) (k := i) (by rw [ints_length]; exact hil)
      subst hA
      have HCE := Lib.hid (fun (w' : World) (h : Ext w w') => (by
        obtain ⟨ad', he, _, hc⟩ := reads_i64 (HR.out.below h) (k := i) (by rw [ints_length]; exact hil)
        injection he with he
        subst he
        rw [ints_getD] at hc
        rwa [show cs.getD i 0 = cs[i] from by simp [List.getD, hil]] at hc : w'.cell? (ad.add i) = some (.int .i64 (cs[i] : Nat))))
      rw [List.drop_eq_getElem_cons hil] at hasc hsum
      generalize cs[i] = x at *
      have hrl : (cs.drop (i + 1)).length = cs.length - (i + 1) := List.length_drop
      have HRL := Lib.hid hrl
      rw [rankFrom] at hsum
      obtain ⟨s1, s2, s3⟩ := hasc
      rw [hrl] at hsum
      clear hrl
      obtain ⟨rest, hrest⟩ : ∃ r, r = cs.drop (i + 1) := ⟨_, rfl⟩
      rw [← hrest] at hsum s3
      have HREST := Lib.hid hrest
      clear hrest
      go_wp2
      go_loopw [9] (fun yv wq => ∃ (y acc : Nat), lo ≤ y ∧ y ≤ x ∧ yv = .int .i64 y ∧ acc + (inner n (cs.length - (i + 1)) y (x - y) + rankFrom n (x + 1) rest) = total ∧ OutB w1 w1.heap.size (w.heap.size + 1) acc wq) (fun yv _ => x - (intOf yv).toNat)
      case atStart => exact ⟨lo, acc, Nat.le_refl _, s1, rfl, hsum, hO⟩
      case round =>
        clear hsum hO
        obtain ⟨y, acc, hy1, hy2, rfl, hsum, hO⟩ := hrel
        have hcx := HCE.out _ (hE.trans hO.ext)
        by_cases hyx : y < x
        · obtain ⟨A, m, c, hc, hf, hC, hx, hN⟩ := hO
          obtain ⟨wq, hwq⟩ : ∃ wq : World, wq = wr := ⟨_, rfl⟩
          subst hwq
          have hb : w1.heap.size < wq.heap.size := World.block_lt_of_cell? _ _ hc
          obtain ⟨d, hd⟩ : ∃ d, x - y = d + 1 := ⟨x - y - 1, by omega⟩
          rw [hd, inner] at hsum
          have HD := Lib.hid hd
          have HL := Lib.hid (show (limbsOf acc).length ≤ n + 1 from by have h1 := limbsOf_length_mono (show acc ≤ chs (n - 0) cs.length from by have := HT.out; omega); have h2 := chs_len n cs.length; rw [Nat.sub_zero] at h1; omega)
          have HO := Lib.hid (fun (w' : World) (h : Ext wq w') => CanV.nat (hC.below h) (by have := HL.out; unfold Fit; omega))
          have HM := Lib.hid (chs_len (n - 1 - y) (cs.length - (i + 1)))
          have HSUM := Lib.hid hsum
          clear hC hsum hd
          go_wp2_with fail
          refine (rbin_e (m := n - 1 - y) (j := cs.length - (i + 1)) (by omega) (by omega) (by omega)).mono ?_
          rintro e w5 ⟨A5, k5, c5, rfl, h5, x5, n5⟩
          have y5 := ext_alloc x5 (.cells #[.slice A5 k5 c5] 25)
          have p5 := CanV.alloc h5 (.cells #[.slice A5 k5 c5] 25)
          have b5 : (w5.alloc (.cells #[.slice A5 k5 c5] 25)).cell? ⟨w5.heap.size, 0, none⟩ = some (.slice A5 k5 c5) := by simp [go_sem]
          have cc5 := (y5.cell (p := ⟨w1.heap.size, 0, none⟩) hb).trans hc
          have ff5 := (y5.frozen (p := ⟨w1.heap.size, 0, none⟩) hb).trans hf
          clear h5 x5
          go_upto_region 14 with (fail)
          generalize w5.alloc (.cells #[.slice A5 k5 c5] 25) = w6 at *
          have hb6 : w1.heap.size < w6.heap.size := World.block_lt_of_cell? _ _ cc5
          have H5 := Lib.hid (CanV.nat p5 (by have := HM.out; unfold Fit; omega))
          have HY := Lib.hid y5
          clear p5 y5
          go_wp2_with fail
          refine (radd_n (HO.out _ (HY.out)) H5.out (by have := HL.out; omega) (by have := HM.out; omega)).mono ?_
          rintro e w7 ⟨A7, k7, c7, rfl, h7, x7, n7⟩
          have e7 := HY.out.trans x7
          have cc7 := (x7.cell (p := ⟨w1.heap.size, 0, none⟩) hb6).trans cc5
          have ff7 := (x7.frozen (p := ⟨w1.heap.size, 0, none⟩) hb6).trans ff5
          go_wp2
          go_roundw
          case rel => exact ⟨y + 1, _, by omega, by omega, by go_num, by have h1 := HSUM.out; have h2 := HD.out; rw [show x - (y + 1) = d from by omega]; rw [show n - 1 - y = n - 1 - y from rfl] at h1; omega, OutB.set cc7 ff7 h7 (hx.trans e7) n7 hb6 (by omega) (Nat.le_refl _)⟩
          case measure => simp [intOf]; omega
        · obtain rfl : y = x := by omega
          rw [Nat.sub_self, inner, Nat.zero_add] at hsum
          go_wp2
          go_roundw
          case rel => exact ⟨i + 1, y + 1, acc, by omega, by go_num, by go_num, by omega, by rw [← HREST.out]; exact s3, by rw [← HREST.out]; exact hsum, hO⟩
          case measure => simp [intOf]; omega
    · obtain rfl : i = cs.length := by omega
      obtain ⟨A, m, c, hc, hf, hC, hx, hN⟩ := hO
      rw [List.drop_length, rankFrom, Nat.add_zero] at hsum
      subst hsum
      have hc0 := (hx.cell (p := ⟨w.heap.size, 0, none⟩) hs1).trans z1
      have hf0 := (hx.frozen (p := ⟨w.heap.size, 0, none⟩) hs1).trans zf1
      clear z1 zf1
      go_wp2
      refine bodyPost_ret (v := .tuple #[.agg #[.slice A m c], .int .i64 0]) (by simp [results, Tryd.results17, go_sem, World.cell?_setCell_same _ _ _ hc0]) rfl ?_
      exact GivesT.box (hE.trans hx) hC hN

/-- Both say the same of any list. -/
theorem ranks_any (n : Int) (zs : List Int) (hlen : zs.length ≤ 70368744177664) : ∃ (v : Nat) (er : Int), ∀ (A : Option Addr) (cap : Nat) (w : World), Reads w 1 A zs.length (i64s zs) →
    Calls Tryd.prog 16 #[.int .i64 n, .slice A zs.length cap] w (GivesT w v er) ∧
    Calls Tryd.prog 17 #[.int .i64 n, .slice A zs.length cap] w (GivesT w v er) := by
  by_cases hn : 0 ≤ n ∧ n ≤ 64
  · obtain ⟨m, rfl⟩ : ∃ m : Nat, n = m := ⟨n.toNat, by omega⟩
    by_cases hok : okAll m zs
    · obtain ⟨cs, rfl, ha⟩ := asc_of_ok zs 0 hok (fun h => (hok 0 h).1)
      rw [ints_length] at *
      exact ⟨_, _, fun A cap w hr => ⟨crank_good (by omega) (by rw [ints_length]; exact hr) ha hlen, rrank_good (by omega) (by rw [ints_length]; exact hr) ha hlen⟩⟩
    · exact ⟨_, _, fun A cap w hr => ⟨crank_bad (by omega) hr hok hlen, rrank_bad (by omega) hr hok hlen⟩⟩
  · exact ⟨_, _, fun A cap w hr => ⟨crank_range (by omega) ⟨_, _, _, rfl⟩, rrank_range (by omega) ⟨_, _, _, rfl⟩⟩⟩

end Go.Proofs.YthikgbgmnlmmlaaDoor
