/- UnrankSet, of both. -/
import Derived.Test.YthikgbgmnlmmlaaDoorRankC
import Derived.Test.YthikgbgmnlmmlaaDoorInts
set_option linter.unusedVariables false
set_option linter.unusedSimpArgs false
set_option maxRecDepth 100000
namespace Go.Proofs.YthikgbgmnlmmlaaDoor
open Go.RowKit Num


theorem clip_i {A : Option Addr} {n c : Nat} {w : World} (h1 : n ≤ c) (h2 : c ≤ 9223372036854775807) :
    Calls Tryd.prog 56 #[.slice A n c] w (fun e w' => e = .returned (.slice A n n) ∧ w = w') := by
  go_enter Tryd.func56, Tryd.ntmps56
  go_wp2
  go_ret
  exact ⟨rfl, rfl⟩

theorem cunr_range {n k : Int} {r : Value} {w : World} (h' : (n < 0 ∨ 64 < n) ∨ (0 ≤ n ∧ n ≤ 64) ∧ (k < 0 ∨ n < k)) :
    Calls Tryd.prog 34 #[.int .i64 n, .int .i64 k, .agg #[r]] w (GivesI w [] 2) := by
  rcases h' with h' | ⟨h1, h'⟩
  all_goals
    go_enter Tryd.func34, Tryd.ntmps34
    go_wp2_with (first | (go_at_call 40; (with_reducible refine (within_t h1).mono ?_); rintro e w1 ⟨rfl, rfl⟩) | (go_at_call 40; (with_reducible refine (within_f h').mono ?_); rintro e w1 ⟨rfl, rfl⟩))
    go_ret2
    exact GivesI.none_ (ext_alloc (Below.refl _ _) _)

set_option maxHeartbeats 2000000 in
theorem cunr_none {n k rr : Nat} {r : Value} {w : World} (hn : n ≤ 64) (hk : k ≤ n) (hr : NatV w r rr) (hge : chs n k ≤ rr) :
    Calls Tryd.prog 34 #[.int .i64 n, .int .i64 k, .agg #[r]] w (GivesI w [] 7) := by
  have hcc : 0 ≤ cmpN rr (chs n k) := by have := @cmpN_neg rr (chs n k); omega
  have h1 : (0 : Int) ≤ n ∧ (n : Int) ≤ 64 := by omega
  have h2 : (0 : Int) ≤ k ∧ (k : Int) ≤ n := by omega
  have HB := Lib.hid (chs_len n k)
  go_enter Tryd.func34, Tryd.ntmps34
  go_upto_region 3 with (first | (go_at_call 40; (with_reducible refine (within_t h1).mono ?_); rintro e w1 ⟨rfl, rfl⟩) | (go_at_call 40; (with_reducible refine (within_t h2).mono ?_); rintro e w1 ⟨rfl, rfl⟩))
  have x0 : Ext w (w.alloc (.cells #[r] 25)) := ext_alloc (Below.refl _ _) _
  have hR := hr.alloc (.cells #[r] 25)
  have hc : (w.alloc (.cells #[r] 25)).cell? ⟨w.heap.size, 0, none⟩ = some r := by simp [go_sem]
  have hf : (w.alloc (.cells #[r] 25)).frozen? ⟨w.heap.size, 0, none⟩ = false := by simp [go_sem]
  have hs0 : w.heap.size + 1 ≤ (w.alloc (.cells #[r] 25)).heap.size := by simp
  generalize w.alloc (.cells #[r] 25) = W0 at *
  have HR := Lib.hid hR
  have HC := Lib.hid (fun (w' : World) (h : Ext W0 w') => (h.cell (p := ⟨w.heap.size, 0, none⟩) (World.block_lt_of_cell? _ _ hc)).trans hc)
  have HF := Lib.hid (fun (w' : World) (h : Ext W0 w') => (h.frozen (p := ⟨w.heap.size, 0, none⟩) (World.block_lt_of_cell? _ _ hc)).trans hf)
  have f0 : Ext W0 W0 := Below.refl _ _
  clear hR hf
  go_region_held3 (fun w' => w'.cell? ⟨w.heap.size, 0, none⟩ = some r) (exact HC.out _ (by repeat first | assumption | exact Below.refl _ _ | refine ext_alloc ?_ _ | refine ext_drew ?_ | refine ext_set ?_ (by first | omega | (simp; done) | (simp; omega)) _)) (first
    | (go_at_call 41; (with_reducible refine (binomial_e (m := n) (j := k) (by omega) (by omega) (by omega)).mono ?_); rintro e s1 ⟨B1, m1, d1, rfl, q1, z1, _⟩; have f1 : Ext W0 s1 := Ext.trans (by repeat first | assumption | exact Below.refl _ _ | refine ext_alloc ?_ _ | refine ext_drew ?_ | refine ext_set ?_ (by first | omega | (simp; done) | (simp; omega)) _) z1)
    | (go_at_call 23; (with_reducible refine (cmp_n (NatV.below HR.out (by repeat first | assumption | exact Below.refl _ _ | refine ext_alloc ?_ _ | refine ext_drew ?_ | refine ext_set ?_ (by first | omega | (simp; done) | (simp; omega)) _)) (NatV.below (CanV.nat q1 (by have := HB.out; unfold Fit; omega)) (by repeat first | assumption | exact Below.refl _ _ | refine ext_alloc ?_ _ | refine ext_drew ?_ | refine ext_set ?_ (by first | omega | (simp; done) | (simp; omega)) _))).mono ?_); rintro e s2 ⟨rfl, z2⟩; have f2 : Ext W0 s2 := Ext.trans (by repeat first | assumption | exact Below.refl _ _ | refine ext_alloc ?_ _ | refine ext_drew ?_ | refine ext_set ?_ (by first | omega | (simp; done) | (simp; omega)) _) z2))
  generalize cmpN rr (chs n k) = cc at *
  go_wp2
  go_ret2
  exact GivesI.none_ (x0.trans f2)

set_option maxHeartbeats 4000000 in
theorem cunr_in {n k rr : Nat} {r : Value} {w : World} (hn : n ≤ 64) (hk : k ≤ n) (hr : NatV w r rr) (hlt : rr < chs n k) :
    Calls Tryd.prog 34 #[.int .i64 n, .int .i64 k, .agg #[r]] w (GivesI w (ints (unr n 0 k rr)) 0) := by
  obtain ⟨i0, hi, hz0, hz1, hz2⟩ := info_parts info_int
  have hcc : cmpN rr (chs n k) < 0 := cmpN_neg.2 hlt
  obtain ⟨rA, rm, rc, rfl⟩ := hr.form
  have h1 : (0 : Int) ≤ n ∧ (n : Int) ≤ 64 := by omega
  have h2 : (0 : Int) ≤ k ∧ (k : Int) ≤ n := by omega
  have HB := Lib.hid (chs_len n k)
  go_enter Tryd.func34, Tryd.ntmps34
  go_upto_region 3 with (first | (go_at_call 40; (with_reducible refine (within_t h1).mono ?_); rintro e w1 ⟨rfl, rfl⟩) | (go_at_call 40; (with_reducible refine (within_t h2).mono ?_); rintro e w1 ⟨rfl, rfl⟩))
  have x0 : Ext w (w.alloc (.cells #[.slice rA rm rc] 25)) := ext_alloc (Below.refl _ _) _
  have hR := hr.alloc (.cells #[.slice rA rm rc] 25)
  have hc : (w.alloc (.cells #[.slice rA rm rc] 25)).cell? ⟨w.heap.size, 0, none⟩ = some (.slice rA rm rc) := by simp [go_sem]
  have hf : (w.alloc (.cells #[.slice rA rm rc] 25)).frozen? ⟨w.heap.size, 0, none⟩ = false := by simp [go_sem]
  have hs0 : w.heap.size + 1 ≤ (w.alloc (.cells #[.slice rA rm rc] 25)).heap.size := by simp
  generalize w.alloc (.cells #[.slice rA rm rc] 25) = W0 at *
  have HR := Lib.hid hR
  have HC := Lib.hid (fun (w' : World) (h : Ext W0 w') => (h.cell (p := ⟨w.heap.size, 0, none⟩) (World.block_lt_of_cell? _ _ hc)).trans hc)
  have HF := Lib.hid (fun (w' : World) (h : Ext W0 w') => (h.frozen (p := ⟨w.heap.size, 0, none⟩) (World.block_lt_of_cell? _ _ hc)).trans hf)
  have f0 : Ext W0 W0 := Below.refl _ _
  clear hR hf
  go_region_held3 (fun w' => w'.cell? ⟨w.heap.size, 0, none⟩ = some (.slice rA rm rc)) (exact HC.out _ (by repeat first | assumption | exact Below.refl _ _ | refine ext_alloc ?_ _ | refine ext_drew ?_ | refine ext_set ?_ (by first | omega | (simp; done) | (simp; omega)) _)) (first
    | (go_at_call 41; (with_reducible refine (binomial_e (m := n) (j := k) (by omega) (by omega) (by omega)).mono ?_); rintro e s1 ⟨B1, m1, d1, rfl, q1, z1, _⟩; have f1 : Ext W0 s1 := Ext.trans (by repeat first | assumption | exact Below.refl _ _ | refine ext_alloc ?_ _ | refine ext_drew ?_ | refine ext_set ?_ (by first | omega | (simp; done) | (simp; omega)) _) z1)
    | (go_at_call 23; (with_reducible refine (cmp_n (NatV.below HR.out (by repeat first | assumption | exact Below.refl _ _ | refine ext_alloc ?_ _ | refine ext_drew ?_ | refine ext_set ?_ (by first | omega | (simp; done) | (simp; omega)) _)) (NatV.below (CanV.nat q1 (by have := HB.out; unfold Fit; omega)) (by repeat first | assumption | exact Below.refl _ _ | refine ext_alloc ?_ _ | refine ext_drew ?_ | refine ext_set ?_ (by first | omega | (simp; done) | (simp; omega)) _))).mono ?_); rintro e s2 ⟨rfl, z2⟩; have f2 : Ext W0 s2 := Ext.trans (by repeat first | assumption | exact Below.refl _ _ | refine ext_alloc ?_ _ | refine ext_drew ?_ | refine ext_set ?_ (by first | omega | (simp; done) | (simp; omega)) _) z2))
  generalize cmpN rr (chs n k) = cc at *
  have hf2 := HF.out _ f2
  have hc2 := HC.out _ f2
  have hR2 := NatV.below HR.out f2
  have hs2 : w.heap.size + 1 ≤ s2.heap.size := Nat.le_trans hs0 f2.size
  have hold : ∀ g, rA.map Addr.block = some g → rm ≠ 0 → g < W0.heap.size := by
    intro g hg hm
    obtain ⟨xs, ⟨A, c, e, _, _, hrd⟩, _⟩ := HR.out
    injection e with e1 e2 e3
    subst e1
    obtain ⟨ad, e4, hb, _⟩ := hrd.2 (by omega)
    subst e4
    simp at hg
    omega
  clear HR HC HF hr
  have hE2 := x0.trans f2
  clear f2 x0
  generalize hT : ints (unr n 0 k rr) = total at *
  have HT := Lib.hid hT
  clear hT
  go_wp2
  go_loopw [8, 9] (fun ov xv wr => ∃ (cs : List Int) (x j q : Nat) (A : Option Addr) (m c : Nat), xv = .int .i64 x ∧ x ≤ n ∧ cs.length + j = k ∧ q < chs (n - x) j ∧ Hid (total = cs ++ ints (unr (n - x) x j q)) ∧
      wr.ownsRow (w.heap.size + 1) 3 1 ov cs.length (i64l cs) ∧ wr.cell? ⟨w.heap.size, 0, none⟩ = some (.slice A m c) ∧ wr.frozen? ⟨w.heap.size, 0, none⟩ = false ∧ NatV wr (.slice A m c) q ∧ Far (.slice A m c) ov ∧ Ext w wr)
    (fun _ xv _ => n - (intOf xv).toNat)
  case atStart => exact ⟨[], 0, k, rr, rA, rm, rc, rfl, Nat.zero_le _, by simp, hlt, Lib.hid (by rw [← HT.out]; rfl), World.ownsRow_nil _ _ _ _, hc2, hf2, hR2, Far.nil_ _, hE2⟩
  case round =>
    clear hc2 hf2 hR2 hE2 HT hcc
    obtain ⟨cs, x, j, q, A, m, c, rfl, hx, hcj, hq, htot, hown, hc, hf, hQ, hfar, hE⟩ := hrel
    have hb : w.heap.size < wr.heap.size := World.block_lt_of_cell? _ _ hc
    obtain ⟨OA, OC, rfl, ho1, ho2⟩ := own_slice hown
    cases j with
    | zero =>
      have HF := Lib.hid (show total = cs from by rw [htot.out, unr_zero]; simp [ints])
      have hck : cs.length = k := by omega
      have HCK := Lib.hid hck
      have hlt1 : ¬ ((cs.length : Int) < (k : Int)) := by omega
      clear hck
      have hI : IntsV wr (.slice OA cs.length OC) cs := IntsV.of_own hown
      have hN : New w.heap.size (.slice OA cs.length OC) := fun b hb => by have := (hown.lt b hb).1; omega
      go_wp2_with (go_at_call 56; (with_reducible refine (clip_i ho1 ho2).mono ?_); rintro e w5 ⟨rfl, rfl⟩)
      go_ret2
      rw [HF.out]
      obtain ⟨_, _, e, h1, h2, h3⟩ := hI
      injection e with e1 e2 e3
      subst e1
      exact ⟨OA, cs.length, rfl, ⟨OA, cs.length, rfl, Nat.le_refl _, by omega, h3⟩, hE, hN.same (by cases OA <;> rfl)⟩
    | succ j =>
      have hxn : x < n := by
        rcases Nat.lt_or_ge x n with h | h
        · exact h
        · rw [show n - x = 0 from by omega, chs_zero_succ] at hq; omega
      obtain ⟨d, hd⟩ : ∃ d, n - x = d + 1 := ⟨n - x - 1, by omega⟩
      have hd0 : d ≤ 64 := by omega
      have hd1 : n - 1 - x = d := by omega
      have hd2 : n - (x + 1) = d := by omega
      rw [hd, chs_succ] at hq
      have hlt1 : (cs.length : Int) < (k : Int) := by omega
      have HL := Lib.hid (chs_len d j)
      have HLQ := Lib.hid (show (limbsOf q).length ≤ 66 from by
        have h1 := limbsOf_length_mono (show q ≤ chs (d + 1) (j + 1) from by rw [chs_succ]; omega)
        have h2 := chs_len (d + 1) (j + 1)
        omega)
      have hj : j = k - 1 - cs.length := by omega
      have HJ := Lib.hid hj
      have HD := Lib.hid hd
      have HD1 := Lib.hid hd1
      have HD2 := Lib.hid hd2
      have HTOT := Lib.hid htot.out
      have HOWN := Lib.hid hown
      have HQQ := Lib.hid hQ
      clear hj hd htot hown hQ hd1 hd2
      go_wp2_with fail
      refine (binomial_e (m := n - 1 - x) (j := j) (by omega) (by omega) (by omega)).mono ?_
      rintro e w5 ⟨A5, k5, c5, rfl, h5, x5, n5⟩
      rw [HD1.out] at h5
      have y5 := ext_alloc x5 (.cells #[.slice A5 k5 c5] 25)
      have p5 := CanV.alloc h5 (.cells #[.slice A5 k5 c5] 25)
      have b5 : (w5.alloc (.cells #[.slice A5 k5 c5] 25)).cell? ⟨w5.heap.size, 0, none⟩ = some (.slice A5 k5 c5) := by simp [go_sem]
      have cc5 := (y5.cell (p := ⟨w.heap.size, 0, none⟩) hb).trans hc
      have ff5 := (y5.frozen (p := ⟨w.heap.size, 0, none⟩) hb).trans hf
      clear h5 x5 hc hf
      go_upto_region 10 with (fail)
      generalize w5.alloc (.cells #[.slice A5 k5 c5] 25) = w6 at *
      have hb6 : w.heap.size < w6.heap.size := World.block_lt_of_cell? _ _ cc5
      have H5 := Lib.hid (CanV.nat p5 (by have := HL.out; unfold Fit; omega))
      clear p5
      go_wp2_with fail
      refine (cmp_n (NatV.below HQQ.out y5) H5.out).mono ?_
      rintro e w7 ⟨rfl, x7⟩
      have e7 := y5.trans x7
      have cc7 := (x7.cell (p := ⟨w.heap.size, 0, none⟩) hb6).trans cc5
      have ff7 := (x7.frozen (p := ⟨w.heap.size, 0, none⟩) hb6).trans ff5
      have bb7 := (x7.cell (p := ⟨w5.heap.size, 0, none⟩) (World.block_lt_of_cell? _ _ b5)).trans b5
      have hb7 : w.heap.size < w7.heap.size := World.block_lt_of_cell? _ _ cc7
      have H57 := Lib.hid (NatV.below H5.out x7)
      clear cc5 ff5 b5 x7 y5 H5
      by_cases hqd : q < chs d j
      · have hcn : cmpN q (chs d j) < 0 := cmpN_neg.2 hqd
        generalize cmpN q (chs d j) = cv at *
        have HKL := Lib.hid (show cs.length ≤ 64 from by omega)
        go_wp2_with (at_builtin; refine wpList_append_mine _ (by rfl) (.tmp 48) (.tmp 50) 31 (by rfl) (w.heap.size + 1) 3 i0 (.int .i64 0) 1 8 Tryd.underlying31 hi hz0 hz1 hz2 rfl (by omega) _ _ _ (by rfl) (World.ownsRow.kept HOWN.out (Ext.grown (ext_alloc e7 _)) (by cases OA <;> simp [Value.ownBlock])) ⟨w7.heap.size, 0, none⟩ 1 1 [.int .i64 x] (by rfl) rfl (cell_one w7 _ _) (by simp [Value.oneCell']) (by have := HKL.out; unfold maxLen; omega) (by have := HKL.out; omega) (by simp; omega) ?_
                     intro v8 w8 ho8 hg8 hw8)
        rw [i64l_snoc] at ho8
        have e8 : Ext w w8 := Below.grown (ext_alloc (hE.trans e7) _) hg8 (by simp; have := (hE.trans e7).size; omega) (fun b hb => by have := (HOWN.out.lt b hb).1; omega)
        have hne : Value.ownBlock (.slice OA cs.length OC) ≠ some w.heap.size := fun h => by have := (HOWN.out.lt _ h).1; omega
        have c8 : w8.cell? ⟨w.heap.size, 0, none⟩ = some (.slice A m c) := hg8.cell (by rw [World.cell?_alloc_lt _ _ _ hb7]; exact cc7) (fun h => hne h.symm)
        have f8 : w8.frozen? ⟨w.heap.size, 0, none⟩ = false := by
          have := World.frozen?_of_block (w := w7.alloc (.cells #[.int .i64 x] 3)) (w' := w8) (a := ⟨w.heap.size, 0, none⟩) (hg8.block _ (by simp; omega) (fun h => hne h.symm))
          rw [this, World.frozen?_alloc_old _ _ _ (show w.heap.size ≠ w7.heap.size from by omega)]
          exact ff7
        have q8 : NatV w8 (.slice A m c) q := by
          obtain ⟨xs, u1, u2⟩ := HQQ.out
          exact ⟨xs, U32s.kept (u1.below (ext_alloc e7 _)) hg8 hfar, u2⟩
        have far8 : Far (.slice A m c) v8 := by
          rcases hw8 with h | h
          · exact hfar.same h
          · obtain ⟨xs, u1, u2⟩ := HQQ.out
            exact Far.new (u1.below (ext_alloc e7 _)) h
        clear hg8 hw8 cc7 ff7
        go_wp2
        go_roundw
        case rel => exact ⟨cs ++ [(x : Int)], x + 1, j, q, A, m, c, by go_num, by omega, by rw [List.length_append]; simp; omega, by rw [HD2.out]; exact hqd, Lib.hid (by rw [HTOT.out, HD.out, unr_lt _ hqd, HD2.out]; simp [ints]), by rw [List.length_append]; exact ho8, c8, f8, q8, far8, e8⟩
        case measure => simp [intOf]; omega
      · have hcn : 0 ≤ cmpN q (chs d j) := by have := @cmpN_neg q (chs d j); omega
        generalize cmpN q (chs d j) = cv at *
        go_wp2_with fail
        refine (sub_ge (NatV.below HQQ.out e7) H57.out (by omega) (by have := HLQ.out; omega)).mono ?_
        rintro e w8 ⟨A8, k8, c8, rfl, h8, x8, n8⟩
        have e8 := e7.trans x8
        have cc8 := (x8.cell (p := ⟨w.heap.size, 0, none⟩) hb7).trans cc7
        have ff8 := (x8.frozen (p := ⟨w.heap.size, 0, none⟩) hb7).trans ff7
        clear cc7 ff7
        have HQ8 := Lib.hid (CanV.nat (U32s.setNew (p := ⟨w.heap.size, 0, none⟩) h8 n8 hb7 (.slice A8 k8 c8)) (show Fit (q - chs d j) from by
          have h1 := limbsOf_length_mono (show q - chs d j ≤ q from Nat.sub_le _ _)
          have h2 := HLQ.out
          unfold Fit; omega))
        have HO8 := Lib.hid (ownsRow_setCell_below (World.ownsRow.kept HOWN.out (Ext.grown e8) (by cases OA <;> simp [Value.ownBlock])) (a := ⟨w.heap.size, 0, none⟩) (Nat.lt_succ_self _) (.slice A8 k8 c8))
        have HFAR := Lib.hid (show Far (.slice A8 k8 c8) (.slice OA cs.length OC) from Far.of_new n8 (fun g hg => by have h1 := (HOWN.out.lt g hg).2; have h2 := e7.size; omega))
        clear h8
        go_wp2
        go_roundw
        case rel => exact ⟨cs, x + 1, j + 1, q - chs d j, A8, k8, c8, by go_num, by omega, by omega, by rw [HD2.out]; omega, Lib.hid (by rw [HTOT.out, HD.out, unr_ge _ (by omega), HD2.out]), HO8.out, World.cell?_setCell_same _ _ _ cc8, by rw [World.frozen?_setCell]; exact ff8, HQ8.out, HFAR.out, (hE.trans e8).setCell (Nat.le_refl _) _⟩
        case measure => simp [intOf]; omega

theorem runr_range {n k : Int} {r : Value} {w : World} (h' : (n < 0 ∨ 64 < n) ∨ (0 ≤ n ∧ n ≤ 64) ∧ (k < 0 ∨ n < k)) :
    Calls Tryd.prog 35 #[.int .i64 n, .int .i64 k, .agg #[r]] w (GivesI w [] 2) := by
  rcases h' with (h' | h') | ⟨h1, h' | h'⟩
  all_goals
    go_enter Tryd.func35, Tryd.ntmps35
    go_wp2
    go_ret2
    exact GivesI.none_ (ext_alloc (Below.refl _ _) _)

set_option maxHeartbeats 2000000 in
theorem runr_none {n k rr : Nat} {r : Value} {w : World} (hn : n ≤ 64) (hk : k ≤ n) (hr : NatV w r rr) (hge : chs n k ≤ rr) :
    Calls Tryd.prog 35 #[.int .i64 n, .int .i64 k, .agg #[r]] w (GivesI w [] 7) := by
  have hcc : 0 ≤ cmpN rr (chs n k) := by have := @cmpN_neg rr (chs n k); omega
  have h1 : (0 : Int) ≤ n ∧ (n : Int) ≤ 64 := by omega
  have h2 : (0 : Int) ≤ k ∧ (k : Int) ≤ n := by omega
  have HB := Lib.hid (chs_len n k)
  go_enter Tryd.func35, Tryd.ntmps35
  go_upto_region 1 with (fail)
  have x0 : Ext w (w.alloc (.cells #[r] 25)) := ext_alloc (Below.refl _ _) _
  have hR := hr.alloc (.cells #[r] 25)
  have hc : (w.alloc (.cells #[r] 25)).cell? ⟨w.heap.size, 0, none⟩ = some r := by simp [go_sem]
  have hf : (w.alloc (.cells #[r] 25)).frozen? ⟨w.heap.size, 0, none⟩ = false := by simp [go_sem]
  have hs0 : w.heap.size + 1 ≤ (w.alloc (.cells #[r] 25)).heap.size := by simp
  generalize w.alloc (.cells #[r] 25) = W0 at *
  go_wp2_with fail
  refine (rbin_e (m := n) (j := k) (by omega) (by omega) (by omega)).mono ?_
  rintro e s1 ⟨B1, m1, d1, rfl, q1, z1, _⟩
  have HR := Lib.hid hR
  have HC := Lib.hid (fun (w' : World) (h : Ext W0 w') => (h.cell (p := ⟨w.heap.size, 0, none⟩) (World.block_lt_of_cell? _ _ hc)).trans hc)
  have HF := Lib.hid (fun (w' : World) (h : Ext W0 w') => (h.frozen (p := ⟨w.heap.size, 0, none⟩) (World.block_lt_of_cell? _ _ hc)).trans hf)
  clear hR hf
  have f1 : Ext W0 (s1.alloc (.cells #[.slice B1 m1 d1] 25)) := ext_alloc z1 _
  have q1' := q1.alloc (.cells #[.slice B1 m1 d1] 25)
  have b1 : (s1.alloc (.cells #[.slice B1 m1 d1] 25)).cell? ⟨s1.heap.size, 0, none⟩ = some (.slice B1 m1 d1) := by simp [go_sem]
  have hc1 := HC.out _ f1
  go_upto_region 4 with (fail)
  clear hc z1
  generalize s1.alloc (.cells #[.slice B1 m1 d1] 25) = W1 at *
  go_wp2_with fail
  refine (rcmp_n (NatV.below HR.out f1) (CanV.nat q1' (by have := HB.out; unfold Fit; omega))).mono ?_
  rintro e s2 ⟨rfl, z2⟩
  have f2 : Ext W0 s2 := f1.trans z2
  clear z2 f1 hc1 b1 q1' q1
  generalize cmpN rr (chs n k) = cc at *
  go_wp2
  go_ret2
  exact GivesI.none_ (x0.trans f2)

set_option maxHeartbeats 4000000 in
theorem runr_in {n k rr : Nat} {r : Value} {w : World} (hn : n ≤ 64) (hk : k ≤ n) (hr : NatV w r rr) (hlt : rr < chs n k) :
    Calls Tryd.prog 35 #[.int .i64 n, .int .i64 k, .agg #[r]] w (GivesI w (ints (unr n 0 k rr)) 0) := by
  obtain ⟨i0, hi, hz0, hz1, hz2⟩ := info_parts info_int
  have hcc : cmpN rr (chs n k) < 0 := cmpN_neg.2 hlt
  obtain ⟨rA, rm, rc, rfl⟩ := hr.form
  have h1 : (0 : Int) ≤ n ∧ (n : Int) ≤ 64 := by omega
  have h2 : (0 : Int) ≤ k ∧ (k : Int) ≤ n := by omega
  have HB := Lib.hid (chs_len n k)
  go_enter Tryd.func35, Tryd.ntmps35
  go_upto_region 1 with (fail)
  have x0 : Ext w (w.alloc (.cells #[.slice rA rm rc] 25)) := ext_alloc (Below.refl _ _) _
  have hR := hr.alloc (.cells #[.slice rA rm rc] 25)
  have hc : (w.alloc (.cells #[.slice rA rm rc] 25)).cell? ⟨w.heap.size, 0, none⟩ = some (.slice rA rm rc) := by simp [go_sem]
  have hf : (w.alloc (.cells #[.slice rA rm rc] 25)).frozen? ⟨w.heap.size, 0, none⟩ = false := by simp [go_sem]
  have hs0 : w.heap.size + 1 ≤ (w.alloc (.cells #[.slice rA rm rc] 25)).heap.size := by simp
  generalize w.alloc (.cells #[.slice rA rm rc] 25) = W0 at *
  go_wp2_with fail
  refine (rbin_e (m := n) (j := k) (by omega) (by omega) (by omega)).mono ?_
  rintro e s1 ⟨B1, m1, d1, rfl, q1, z1, _⟩
  have HR := Lib.hid hR
  have HC := Lib.hid (fun (w' : World) (h : Ext W0 w') => (h.cell (p := ⟨w.heap.size, 0, none⟩) (World.block_lt_of_cell? _ _ hc)).trans hc)
  have HF := Lib.hid (fun (w' : World) (h : Ext W0 w') => (h.frozen (p := ⟨w.heap.size, 0, none⟩) (World.block_lt_of_cell? _ _ hc)).trans hf)
  clear hR hf
  have f1 : Ext W0 (s1.alloc (.cells #[.slice B1 m1 d1] 25)) := ext_alloc z1 _
  have q1' := q1.alloc (.cells #[.slice B1 m1 d1] 25)
  have b1 : (s1.alloc (.cells #[.slice B1 m1 d1] 25)).cell? ⟨s1.heap.size, 0, none⟩ = some (.slice B1 m1 d1) := by simp [go_sem]
  have hc1 := HC.out _ f1
  go_upto_region 4 with (fail)
  clear hc z1
  generalize s1.alloc (.cells #[.slice B1 m1 d1] 25) = W1 at *
  go_wp2_with fail
  refine (rcmp_n (NatV.below HR.out f1) (CanV.nat q1' (by have := HB.out; unfold Fit; omega))).mono ?_
  rintro e s2 ⟨rfl, z2⟩
  have f2 : Ext W0 s2 := f1.trans z2
  clear z2 f1 hc1 b1 q1' q1
  generalize cmpN rr (chs n k) = cc at *
  have hf2 := HF.out _ f2
  have hc2 := HC.out _ f2
  have hR2 := NatV.below HR.out f2
  have hs2 : w.heap.size + 1 ≤ s2.heap.size := Nat.le_trans hs0 f2.size
  have hold : ∀ g, rA.map Addr.block = some g → rm ≠ 0 → g < W0.heap.size := by
    intro g hg hm
    obtain ⟨xs, ⟨A, c, e, _, _, hrd⟩, _⟩ := HR.out
    injection e with e1 e2 e3
    subst e1
    obtain ⟨ad, e4, hb, _⟩ := hrd.2 (by omega)
    subst e4
    simp at hg
    omega
  clear HR HC HF hr
  have hE2 := x0.trans f2
  clear f2 x0
  generalize hT : ints (unr n 0 k rr) = total at *
  have HT := Lib.hid hT
  clear hT
  go_wp2
  go_loopw [10, 11] (fun ov xv wr => ∃ (cs : List Int) (x j q : Nat) (A : Option Addr) (m c : Nat), xv = .int .i64 x ∧ x ≤ n ∧ cs.length + j = k ∧ q < chs (n - x) j ∧ Hid (total = cs ++ ints (unr (n - x) x j q)) ∧
      wr.ownsRow (w.heap.size + 1) 3 1 ov cs.length (i64l cs) ∧ wr.cell? ⟨w.heap.size, 0, none⟩ = some (.slice A m c) ∧ wr.frozen? ⟨w.heap.size, 0, none⟩ = false ∧ NatV wr (.slice A m c) q ∧ Far (.slice A m c) ov ∧ Ext w wr)
    (fun _ xv _ => n - (intOf xv).toNat)
  case atStart => exact ⟨[], 0, k, rr, rA, rm, rc, rfl, Nat.zero_le _, by simp, hlt, Lib.hid (by rw [← HT.out]; rfl), World.ownsRow_nil _ _ _ _, hc2, hf2, hR2, Far.nil_ _, hE2⟩
  case round =>
    clear hc2 hf2 hR2 hE2 HT hcc
    obtain ⟨cs, x, j, q, A, m, c, rfl, hx, hcj, hq, htot, hown, hc, hf, hQ, hfar, hE⟩ := hrel
    have hb : w.heap.size < wr.heap.size := World.block_lt_of_cell? _ _ hc
    obtain ⟨OA, OC, rfl, ho1, ho2⟩ := own_slice hown
    cases j with
    | zero =>
      have HF := Lib.hid (show total = cs from by rw [htot.out, unr_zero]; simp [ints])
      have hck : cs.length = k := by omega
      have HCK := Lib.hid hck
      have hlt1 : ¬ ((cs.length : Int) < (k : Int)) := by omega
      clear hck
      have hI : IntsV wr (.slice OA cs.length OC) cs := IntsV.of_own hown
      have hN : New w.heap.size (.slice OA cs.length OC) := fun b hb => by have := (hown.lt b hb).1; omega
      go_wp2
      go_ret2
      rw [HF.out]
      exact ⟨OA, OC, rfl, hI, hE, hN⟩
    | succ j =>
      have hxn : x < n := by
        rcases Nat.lt_or_ge x n with h | h
        · exact h
        · rw [show n - x = 0 from by omega, chs_zero_succ] at hq; omega
      obtain ⟨d, hd⟩ : ∃ d, n - x = d + 1 := ⟨n - x - 1, by omega⟩
      have hd0 : d ≤ 64 := by omega
      have hd1 : n - 1 - x = d := by omega
      have hd2 : n - (x + 1) = d := by omega
      rw [hd, chs_succ] at hq
      have hlt1 : (cs.length : Int) < (k : Int) := by omega
      have HL := Lib.hid (chs_len d j)
      have HLQ := Lib.hid (show (limbsOf q).length ≤ 66 from by
        have h1 := limbsOf_length_mono (show q ≤ chs (d + 1) (j + 1) from by rw [chs_succ]; omega)
        have h2 := chs_len (d + 1) (j + 1)
        omega)
      have hj : j = k - 1 - cs.length := by omega
      have HJ := Lib.hid hj
      have HD := Lib.hid hd
      have HD1 := Lib.hid hd1
      have HD2 := Lib.hid hd2
      have HTOT := Lib.hid htot.out
      have HOWN := Lib.hid hown
      have HQQ := Lib.hid hQ
      clear hj hd htot hown hQ hd1 hd2
      go_wp2_with fail
      refine (rbin_e (m := n - 1 - x) (j := j) (by omega) (by omega) (by omega)).mono ?_
      rintro e w5 ⟨A5, k5, c5, rfl, h5, x5, n5⟩
      rw [HD1.out] at h5
      have y5 := ext_alloc x5 (.cells #[.slice A5 k5 c5] 25)
      have p5 := CanV.alloc h5 (.cells #[.slice A5 k5 c5] 25)
      have b5 : (w5.alloc (.cells #[.slice A5 k5 c5] 25)).cell? ⟨w5.heap.size, 0, none⟩ = some (.slice A5 k5 c5) := by simp [go_sem]
      have cc5 := (y5.cell (p := ⟨w.heap.size, 0, none⟩) hb).trans hc
      have ff5 := (y5.frozen (p := ⟨w.heap.size, 0, none⟩) hb).trans hf
      clear h5 x5 hc hf
      go_upto_region 10 with (fail)
      generalize w5.alloc (.cells #[.slice A5 k5 c5] 25) = w6 at *
      have hb6 : w.heap.size < w6.heap.size := World.block_lt_of_cell? _ _ cc5
      have H5 := Lib.hid (CanV.nat p5 (by have := HL.out; unfold Fit; omega))
      clear p5
      go_wp2_with fail
      refine (rcmp_n (NatV.below HQQ.out y5) H5.out).mono ?_
      rintro e w7 ⟨rfl, x7⟩
      have e7 := y5.trans x7
      have cc7 := (x7.cell (p := ⟨w.heap.size, 0, none⟩) hb6).trans cc5
      have ff7 := (x7.frozen (p := ⟨w.heap.size, 0, none⟩) hb6).trans ff5
      have bb7 := (x7.cell (p := ⟨w5.heap.size, 0, none⟩) (World.block_lt_of_cell? _ _ b5)).trans b5
      have hb7 : w.heap.size < w7.heap.size := World.block_lt_of_cell? _ _ cc7
      have H57 := Lib.hid (NatV.below H5.out x7)
      clear cc5 ff5 b5 x7 y5 H5
      by_cases hqd : q < chs d j
      · have hcn : cmpN q (chs d j) < 0 := cmpN_neg.2 hqd
        generalize cmpN q (chs d j) = cv at *
        have HKL := Lib.hid (show cs.length ≤ 64 from by omega)
        go_wp2_with (at_builtin; refine wpList_append_mine _ (by rfl) (.tmp 60) (.tmp 62) 31 (by rfl) (w.heap.size + 1) 3 i0 (.int .i64 0) 1 8 Tryd.underlying31 hi hz0 hz1 hz2 rfl (by omega) _ _ _ (by rfl) (World.ownsRow.kept HOWN.out (Ext.grown (ext_alloc e7 _)) (by cases OA <;> simp [Value.ownBlock])) ⟨w7.heap.size, 0, none⟩ 1 1 [.int .i64 x] (by rfl) rfl (cell_one w7 _ _) (by simp [Value.oneCell']) (by have := HKL.out; unfold maxLen; omega) (by have := HKL.out; omega) (by simp; omega) ?_
                     intro v8 w8 ho8 hg8 hw8)
        rw [i64l_snoc] at ho8
        have e8 : Ext w w8 := Below.grown (ext_alloc (hE.trans e7) _) hg8 (by simp; have := (hE.trans e7).size; omega) (fun b hb => by have := (HOWN.out.lt b hb).1; omega)
        have hne : Value.ownBlock (.slice OA cs.length OC) ≠ some w.heap.size := fun h => by have := (HOWN.out.lt _ h).1; omega
        have c8 : w8.cell? ⟨w.heap.size, 0, none⟩ = some (.slice A m c) := hg8.cell (by rw [World.cell?_alloc_lt _ _ _ hb7]; exact cc7) (fun h => hne h.symm)
        have f8 : w8.frozen? ⟨w.heap.size, 0, none⟩ = false := by
          have := World.frozen?_of_block (w := w7.alloc (.cells #[.int .i64 x] 3)) (w' := w8) (a := ⟨w.heap.size, 0, none⟩) (hg8.block _ (by simp; omega) (fun h => hne h.symm))
          rw [this, World.frozen?_alloc_old _ _ _ (show w.heap.size ≠ w7.heap.size from by omega)]
          exact ff7
        have q8 : NatV w8 (.slice A m c) q := by
          obtain ⟨xs, u1, u2⟩ := HQQ.out
          exact ⟨xs, U32s.kept (u1.below (ext_alloc e7 _)) hg8 hfar, u2⟩
        have far8 : Far (.slice A m c) v8 := by
          rcases hw8 with h | h
          · exact hfar.same h
          · obtain ⟨xs, u1, u2⟩ := HQQ.out
            exact Far.new (u1.below (ext_alloc e7 _)) h
        clear hg8 hw8 cc7 ff7
        go_wp2
        go_roundw
        case rel => exact ⟨cs ++ [(x : Int)], x + 1, j, q, A, m, c, by go_num, by omega, by rw [List.length_append]; simp; omega, by rw [HD2.out]; exact hqd, Lib.hid (by rw [HTOT.out, HD.out, unr_lt _ hqd, HD2.out]; simp [ints]), by rw [List.length_append]; exact ho8, c8, f8, q8, far8, e8⟩
        case measure => simp [intOf]; omega
      · have hcn : 0 ≤ cmpN q (chs d j) := by have := @cmpN_neg q (chs d j); omega
        generalize cmpN q (chs d j) = cv at *
        go_wp2_with fail
        refine (rsub_ge (NatV.below HQQ.out e7) H57.out (by omega) (by have := HLQ.out; omega)).mono ?_
        rintro e w8 ⟨A8, k8, c8, rfl, h8, x8, n8⟩
        have e8 := e7.trans x8
        have cc8 := (x8.cell (p := ⟨w.heap.size, 0, none⟩) hb7).trans cc7
        have ff8 := (x8.frozen (p := ⟨w.heap.size, 0, none⟩) hb7).trans ff7
        clear cc7 ff7
        have HQ8 := Lib.hid (CanV.nat (U32s.setNew (p := ⟨w.heap.size, 0, none⟩) h8 n8 hb7 (.slice A8 k8 c8)) (show Fit (q - chs d j) from by
          have h1 := limbsOf_length_mono (show q - chs d j ≤ q from Nat.sub_le _ _)
          have h2 := HLQ.out
          unfold Fit; omega))
        have HO8 := Lib.hid (ownsRow_setCell_below (World.ownsRow.kept HOWN.out (Ext.grown e8) (by cases OA <;> simp [Value.ownBlock])) (a := ⟨w.heap.size, 0, none⟩) (Nat.lt_succ_self _) (.slice A8 k8 c8))
        have HFAR := Lib.hid (show Far (.slice A8 k8 c8) (.slice OA cs.length OC) from Far.of_new n8 (fun g hg => by have h1 := (HOWN.out.lt g hg).2; have h2 := e7.size; omega))
        clear h8
        go_wp2
        go_roundw
        case rel => exact ⟨cs, x + 1, j + 1, q - chs d j, A8, k8, c8, by go_num, by omega, by omega, by rw [HD2.out]; omega, Lib.hid (by rw [HTOT.out, HD.out, unr_ge _ (by omega), HD2.out]), HO8.out, World.cell?_setCell_same _ _ _ cc8, by rw [World.frozen?_setCell]; exact ff8, HQ8.out, HFAR.out, (hE.trans e8).setCell (Nat.le_refl _) _⟩
        case measure => simp [intOf]; omega

/-- Both say the same. -/
theorem unrs_any (n k : Int) (rr : Nat) : ∃ (zs : List Int) (er : Int), ∀ (r : Value) (w : World), NatV w r rr →
    Calls Tryd.prog 34 #[.int .i64 n, .int .i64 k, .agg #[r]] w (GivesI w zs er) ∧
    Calls Tryd.prog 35 #[.int .i64 n, .int .i64 k, .agg #[r]] w (GivesI w zs er) := by
  by_cases h : (0 ≤ n ∧ n ≤ 64) ∧ (0 ≤ k ∧ k ≤ n)
  · obtain ⟨m, rfl⟩ : ∃ m : Nat, n = m := ⟨n.toNat, by omega⟩
    obtain ⟨j, rfl⟩ : ∃ j : Nat, k = j := ⟨k.toNat, by omega⟩
    by_cases hlt : rr < chs m j
    · exact ⟨_, _, fun r w hr => ⟨cunr_in (by omega) (by omega) hr hlt, runr_in (by omega) (by omega) hr hlt⟩⟩
    · exact ⟨_, _, fun r w hr => ⟨cunr_none (by omega) (by omega) hr (by omega), runr_none (by omega) (by omega) hr (by omega)⟩⟩
  · exact ⟨_, _, fun r w hr => ⟨cunr_range (by omega), runr_range (by omega)⟩⟩

end Go.Proofs.YthikgbgmnlmmlaaDoor
