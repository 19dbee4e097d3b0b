/- The walk of CountingInverse. -/
import Derived.Test.YthikgbgmnlmmlaaDoorLwSteps
import Derived.Test.YthikgbgmnlmmlaaDoorUnr
set_option linter.unusedVariables false
set_option linter.unusedSimpArgs false
set_option maxRecDepth 100000
namespace Go.Proofs.YthikgbgmnlmmlaaDoor
open Go.RowKit Num

theorem asc_mono {i n : Nat} (h : i ≤ n) : ∀ (cs : List Nat) (lo : Nat), Asc i lo cs → Asc n lo cs := by
  intro cs
  induction cs with
  | nil => intro lo _; trivial
  | cons x r ih => intro lo ⟨h1, h2, h3⟩; exact ⟨h1, by omega, ih _ h3⟩
theorem asc_snoc {i : Nat} : ∀ (cs : List Nat) (lo : Nat), lo ≤ i → Asc i lo cs → Asc (i + 1) lo (cs ++ [i]) := by
  intro cs
  induction cs with
  | nil => intro lo h _; exact ⟨h, by omega, trivial⟩
  | cons x r ih => intro lo _ ⟨h1, h2, h3⟩; exact ⟨h1, by omega, ih _ (by omega) h3⟩
theorem asc_len {n : Nat} : ∀ (cs : List Nat) (lo : Nat), lo ≤ n → Asc n lo cs → cs.length + lo ≤ n := by
  intro cs
  induction cs with
  | nil => intro lo h _; simpa using h
  | cons x r ih => intro lo _ ⟨h1, h2, h3⟩; have := ih _ (by omega) h3; simp; omega
theorem ints_snoc (cs : List Nat) (i : Nat) : ints (cs ++ [i]) = ints cs ++ [(i : Int)] := by simp [ints]
theorem range_getD (a n k : Nat) (h : k < n) : (List.range' a n).getD k 0 = a + k := by simp [List.getD, h]

/-- What the next rank gives. -/
theorem next_none {n : Nat} {cs : List Nat} (h : Asc n 0 cs) (hr : ¬ rankFrom n 0 cs + 1 < chs n cs.length) : ∀ i, i < cs.length → cs.getD i 0 = n - cs.length + i := by
  intro i hi
  have h1 := rankFrom_lt n cs 0 (Nat.zero_le _) h
  have h2 := unr_rank n cs 0 (Nat.zero_le _) h
  have h3 := asc_len cs 0 (Nat.zero_le _) h
  rw [Nat.sub_zero] at *
  have h4 := unr_last n 0 cs.length (by omega)
  rw [show rankFrom n 0 cs = chs n cs.length - 1 from by omega, h4, Nat.zero_add] at h2
  rw [← h2, List.length_range', range_getD _ _ _ hi]
theorem next_some {n : Nat} {cs : List Nat} (h : Asc n 0 cs) (hr : rankFrom n 0 cs + 1 < chs n cs.length) :
    ∃ ns, unr n 0 cs.length (rankFrom n 0 cs + 1) = ns ∧ Asc n 0 ns ∧ ns.length = cs.length ∧ ∃ i, i < cs.length ∧ (∀ k, k < i → ns.getD k 0 = cs.getD k 0) ∧ cs.getD i 0 < ns.getD i 0 := by
  have h2 := unr_rank n cs 0 (Nat.zero_le _) h
  rw [Nat.sub_zero] at h2
  obtain ⟨a1, a2⟩ := unr_asc n 0 cs.length _ hr
  obtain ⟨i, b1, b2, b3⟩ := unr_later n 0 cs.length (rankFrom n 0 cs) _ (Nat.lt_succ_self _) hr
  rw [h2] at b2 b3
  rw [Nat.zero_add] at a1
  refine ⟨_, rfl, a1, a2, i, b1, fun k hk => ?_, b3⟩
  have h5 : (cs.take i).getD k 0 = ((unr n 0 cs.length (rankFrom n 0 cs + 1)).take i).getD k 0 := by rw [b2]
  simpa [List.getD, List.getElem?_take, hk] using h5.symm

theorem asc_true {n : Nat} {v : Value} {cs : List Nat} {w : World} {z : Int} (hz : z = (n : Int) - 1) (hn : n ≤ 64) (hv : IntsV w v (ints cs)) (ha : Asc n 0 cs) :
    Calls Tryd.prog 37 #[v, .int .i64 0, .int .i64 z] w (fun e w' => e = .returned (.bool true) ∧ Ext w w') := by
  subst hz
  obtain ⟨A, c, rfl, _, _, hr⟩ := hv
  have hl := asc_len cs 0 (Nat.zero_le _) ha
  exact asc_any (b := true) (n := (n : Int)) (by omega) hr (by simpa using ok_of_asc ha) (by rw [ints_length]; omega)
theorem crank_v {n : Nat} {A : Option Addr} {c : Nat} {cs : List Nat} {w : World} (hn : n ≤ 64) (hv : IntsV w (.slice A cs.length c) (ints cs)) (ha : Asc n 0 cs) :
    Calls Tryd.prog 16 #[.int .i64 n, .slice A cs.length c] w (GivesT w (rankFrom n 0 cs) 0) := by
  obtain ⟨A', c', e, _, _, hr⟩ := hv
  injection e with e1 e2 e3
  subst e1
  have hl := asc_len cs 0 (Nat.zero_le _) ha
  exact crank_good hn hr ha (by omega)
theorem cunr_any {n k rr : Nat} {r : Value} {w : World} (hn : n ≤ 64) (hk : k ≤ n) (hr : NatV w r rr) :
    Calls Tryd.prog 34 #[.int .i64 n, .int .i64 k, .agg #[r]] w (GivesI w (if rr < chs n k then ints (unr n 0 k rr) else []) (if rr < chs n k then 0 else 7)) := by
  by_cases h : rr < chs n k
  · rw [if_pos h, if_pos h]; exact cunr_in hn hk hr h
  · rw [if_neg h, if_neg h]; exact cunr_none hn hk hr (by omega)

set_option maxHeartbeats 4000000 in
theorem law_CountingInverse {a0 : Int} {v : Value} {zs : List Int} {w : World} (wa : -9223372036854775808 ≤ a0 ∧ a0 ≤ 9223372036854775807) (hv : KInts .u8 w v zs) :
    Calls Tryd.prog 10 #[.int .i64 a0, v] w (fun e w' => e = .returned (.bool true) ∧ Ext w w') := by
  obtain ⟨i0, hi, hz0, hz1, hz2⟩ := info_parts info_int
  obtain ⟨A, cap, rfl, hcap1, hcap2, hrd, hwf⟩ := hv
  have HA := Lib.hid wa
  have HR := Lib.hid (fun (w' : World) (h : Ext w w') (k : Nat) (hk : k < zs.length) => (by
    obtain ⟨ad, u, h1, h2, h3, h4⟩ := (hrd.below h).at_ hk
    have hu : u = .int .u8 (zs.getD k 0) := by simpa [hk] using h3.symm
    have hz := hwf (zs.getD k 0) (by simp [List.getD, hk])
    simp [Lit.wf, IntKind.has, IntKind.min, IntKind.max, IntKind.bits, IntKind.signed] at hz
    rw [← List.getD_eq_getElem?_getD] at hz
    exact ⟨ad, h1, h2, by rw [h4, hu], hz.1, hz.2⟩ : ∃ ad, A = some ad ∧ ad.block < w'.heap.size ∧ w'.cell? (ad.add k) = some (.int .u8 (zs.getD k 0)) ∧ 0 ≤ zs.getD k 0 ∧ zs.getD k 0 ≤ 255))
  clear wa hrd hwf
  go_enter Tryd.func10, Tryd.ntmps10
  go_wp2_with (go_at_call 12; (with_reducible refine awake_true.mono ?_); rintro e w0 ⟨rfl, E0⟩)
  refine (mod_i (by omega) (by omega) HA.out).mono ?_
  rintro e _ ⟨n, hn, rfl, rfl⟩
  clear HA
  go_wp2
  go_loopw [5, 6] (fun ov iv wr => ∃ (i : Nat) (cs : List Nat), i ≤ n ∧ iv = .int .i64 i ∧ Hid (Asc i 0 cs) ∧ wr.ownsRow w.heap.size 3 1 ov cs.length (i64l (ints cs)) ∧ Ext w wr) (fun _ iv _ => n - (intOf iv).toNat)
  case atStart => exact ⟨0, [], Nat.zero_le _, rfl, Lib.hid trivial, World.ownsRow_nil _ _ _ _, E0⟩
  case round =>
    obtain ⟨i, cs, hin, rfl, hasc, hown, hE⟩ := hrel
    obtain ⟨OA, OC, rfl, ho1, ho2⟩ := own_slice hown
    have hcl : cs.length ≤ 64 := by have := asc_len cs 0 (Nat.zero_le _) hasc.out; omega
    obtain ⟨t, ht⟩ : ∃ t : Int, wrap64 (8 * (zs.length : Int)) = t := ⟨_, rfl⟩
    have hidx : i < n → (i : Int) < t → i / 8 < zs.length := by
      intro h1 h2
      rcases Nat.lt_or_ge zs.length 8 with h | h
      · have : wrap64 (8 * (zs.length : Int)) = 8 * (zs.length : Int) := by unfold wrap64; omega
        omega
      · omega
    by_cases hcond : i < n ∧ (i : Int) < t
    · obtain ⟨hc1, hc2⟩ := hcond
      have hk := hidx hc1 hc2
      obtain ⟨ad, hA, hb, hcell, hz1', hz2'⟩ := HR.out wr hE (i / 8) hk
      subst hA
      clear hidx
      have HOWN := Lib.hid hown
      have HKL := Lib.hid hcl
      have HAS := Lib.hid (asc_snoc cs 0 (Nat.zero_le _) hasc.out)
      have HAM := Lib.hid (asc_mono (show i ≤ i + 1 from Nat.le_succ i) cs 0 hasc.out)
      clear hown hasc
      go_wp2_with (at_builtin; refine wpList_append_mine _ (by rfl) (.tmp 41) (.tmp 43) 31 (by rfl) w.heap.size 3 i0 (.int .i64 0) 1 8 Tryd.underlying31 hi hz0 hz1 hz2 rfl (by omega) _ _ _ (by rfl) (World.ownsRow.kept HOWN.out (Ext.grown (ext_alloc (Below.refl _ _) _)) (by cases OA <;> simp [Value.ownBlock])) ⟨wr.heap.size, 0, none⟩ 1 1 [.int .i64 i] (by rfl) rfl (cell_one wr _ _) (by simp [Value.oneCell']) (by have := HKL.out; unfold maxLen; omega) (by have := HKL.out; omega) (by have := hE.size; simp; omega) ?_
                   intro v8 w8 ho8 hg8 hw8)
      all_goals go_roundw
      all_goals first
        | (rw [i64l_snoc, ← ints_snoc] at ho8
           exact ⟨i + 1, cs ++ [i], by omega, by go_num, HAS, by rw [List.length_append]; exact ho8, Below.grown (ext_alloc hE _) hg8 (by have := hE.size; simp; omega) (fun b hb => (HOWN.out.lt b hb).1)⟩)
        | exact ⟨i + 1, cs, by omega, by go_num, HAM, HOWN.out, hE⟩
        | (simp [intOf]; omega)
    · have HASC := Lib.hid (asc_mono hin cs 0 hasc.out)
      have hI : IntsV wr (.slice OA (ints cs).length OC) (ints cs) := by rw [ints_length]; exact IntsV.of_own hown
      have hI' : IntsV wr (.slice OA cs.length OC) (ints cs) := by rw [ints_length] at hI; exact hI
      have HI := Lib.hid hI'
      have hln : cs.length ≤ n := by have := asc_len cs 0 (Nat.zero_le _) HASC.out; omega
      have hex : ¬ i < n ∨ (i < n ∧ ¬ (i : Int) < t) := by
        by_cases h : i < n
        · exact .inr ⟨h, fun h2 => hcond ⟨h, h2⟩⟩
        · exact .inl h
      have HLK := Lib.hid (show (limbsOf (rankFrom n 0 cs)).length ≤ 66 from by
        have h1 := rankFrom_lt n cs 0 (Nat.zero_le _) HASC.out
        have h2 := limbsOf_length_mono (show rankFrom n 0 cs ≤ chs n cs.length from by rw [Nat.sub_zero] at h1; omega)
        have h3 := chs_len n cs.length
        omega)
      have HUN := Lib.hid (show (if rankFrom n 0 cs < chs n cs.length then ints (unr n 0 cs.length (rankFrom n 0 cs)) else []) = ints cs ∧ (if rankFrom n 0 cs < chs n cs.length then (0 : Int) else 7) = 0 from by
        have h1 := rankFrom_lt n cs 0 (Nat.zero_le _) HASC.out
        have h2 := unr_rank n cs 0 (Nat.zero_le _) HASC.out
        rw [Nat.sub_zero] at h1 h2
        rw [if_pos h1, if_pos h1, h2]; exact ⟨rfl, rfl⟩)
      clear hown hcond hidx hasc hI hI' HR
      rcases hex with hex | ⟨hex1, hex2⟩
      all_goals
        go_wp2_with fail
        refine (crank_v (by omega) HI.out HASC.out).mono ?_
        rintro e u1 ⟨A1, k1, c1, rfl, h1, x1, _⟩
        have y1 := ext_alloc x1 (.cells #[.slice A1 k1 c1] 25)
        have p1 := CanV.alloc h1 (.cells #[.slice A1 k1 c1] 25)
        have b1 : (u1.alloc (.cells #[.slice A1 k1 c1] 25)).cell? ⟨u1.heap.size, 0, none⟩ = some (.slice A1 k1 c1) := by simp [go_sem]
        clear h1 x1
        go_wp2_with fail
        generalize u1.alloc (.cells #[.slice A1 k1 c1] 25) = w1 at *
        have HP1 := Lib.hid (CanV.nat p1 (by have := HLK.out; unfold Fit; omega))
        clear p1
        refine (cunr_any (n := n) (k := cs.length) (by omega) hln HP1.out).mono ?_
        rintro e w2 hg2
        rw [HUN.out.1, HUN.out.2] at hg2
        obtain ⟨A2, c2, rfl, h2, x2, _⟩ := hg2
        rw [ints_length] at h2 ⊢
        have b2 := (x2.cell (p := ⟨u1.heap.size, 0, none⟩) (World.block_lt_of_cell? _ _ b1)).trans b1
        have hI2 := HI.out.below (y1.trans x2)
        clear b1
        go_wp2_with fail
        refine (bints_same h2 hI2).mono ?_
        rintro e w3 ⟨rfl, x3⟩
        have b3 := (x3.cell (p := ⟨u1.heap.size, 0, none⟩) (World.block_lt_of_cell? _ _ b2)).trans b2
        have y3 := (y1.trans x2).trans x3
        have HP3 := Lib.hid (NatV.below HP1.out (x2.trans x3))
        clear h2 hI2 b2
        go_upto_region 14 with (fail)
        have HY := Lib.hid (hE.trans y3)
        have HI3 := Lib.hid (HI.out.below y3)
        clear hE y3 y1 x2 x3
        have HS := Lib.hid (fun (w' : World) (h : Ext w3 w') => (h.cell (p := ⟨u1.heap.size, 0, none⟩) (World.block_lt_of_cell? _ _ b3)).trans b3)
        have f0 : Ext w3 w3 := Below.refl _ _
        by_cases hnx : rankFrom n 0 cs + 1 < chs n cs.length
        · obtain ⟨ns, hns, ha, hnl, i, hi1, hi2, hi3⟩ := next_some HASC.out hnx
          have HU := Lib.hid (fun (w' : World) (r : Value) (h : NatV w' r (rankFrom n 0 cs + 1)) => (by
            have h1 := cunr_in (by omega) hln h hnx
            rwa [hns] at h1 : Calls Tryd.prog 34 #[.int .i64 n, .int .i64 cs.length, .agg #[r]] w' (GivesI w' (ints ns) 0)))
          have HNL := Lib.hid hnl
          have HNA := Lib.hid ha
          have HI2 := Lib.hid hi2
          have HI3B := Lib.hid hi3
          clear hns hnl hi2 ha hi3
          go_region_held3 (fun w' => w'.cell? ⟨u1.heap.size, 0, none⟩ = some (.slice A1 k1 c1)) (exact HS.out _ (by repeat first | assumption | exact Below.refl _ _ | refine ext_alloc ?_ _ | refine ext_drew ?_ | refine ext_set ?_ (by first | omega | (simp; done) | (simp; omega)) _)) (first
            | (go_at_call 20; (with_reducible refine (nof_e (m := 1) (by omega) (by omega)).mono ?_); rintro e s1 ⟨B1, m1, d1, rfl, q1, z1, _⟩; have f1 : Ext w3 s1 := Ext.trans (by repeat first | assumption | exact Below.refl _ _ | refine ext_alloc ?_ _ | refine ext_drew ?_ | refine ext_set ?_ (by first | omega | (simp; done) | (simp; omega)) _) z1)
            | (go_at_call 21; (with_reducible refine (add_n (NatV.below HP3.out (by repeat first | assumption | exact Below.refl _ _ | refine ext_alloc ?_ _ | refine ext_drew ?_ | refine ext_set ?_ (by first | omega | (simp; done) | (simp; omega)) _)) (NatV.below (CanV.nat q1 (fit_small (by omega))) (by repeat first | assumption | exact Below.refl _ _ | refine ext_alloc ?_ _ | refine ext_drew ?_ | refine ext_set ?_ (by first | omega | (simp; done) | (simp; omega)) _)) (by have := HLK.out; omega) (by have := len_small (x := 1) (by omega); omega)).mono ?_); rintro e s2 ⟨B2, m2, d2, rfl, q2, z2, _⟩; have f2 : Ext w3 s2 := Ext.trans (by repeat first | assumption | exact Below.refl _ _ | refine ext_alloc ?_ _ | refine ext_drew ?_ | refine ext_set ?_ (by first | omega | (simp; done) | (simp; omega)) _) z2)
            | (go_at_call 34; (with_reducible refine (HU.out _ _ (NatV.below (CanV.nat q2 (by have h1 := HLK.out; have h2 := limbsOf_length_add (rankFrom n 0 cs) 1; have h3 := len_small (x := 1) (by omega); unfold Fit; omega)) (by repeat first | assumption | exact Below.refl _ _ | refine ext_alloc ?_ _ | refine ext_drew ?_ | refine ext_set ?_ (by first | omega | (simp; done) | (simp; omega)) _))).mono ?_); rintro e s3 ⟨A3, c3, rfl, q3, z3, _⟩; have f3 : Ext w3 s3 := Ext.trans (by repeat first | assumption | exact Below.refl _ _ | refine ext_alloc ?_ _ | refine ext_drew ?_ | refine ext_set ?_ (by first | omega | (simp; done) | (simp; omega)) _) z3))
          have HY3 := Lib.hid (HY.out.trans f3)
          have q3' : IntsV s3 (.slice A3 (ints ns).length c3) (ints ns) := q3
          rw [ints_length, HNL.out] at q3' ⊢
          have hlen1 : decide ((cs.length : Int) = (cs.length : Int)) = true := by simp
          go_wp2_with (go_at_call 37; (with_reducible refine (asc_true (n := n) (by omega) (by omega) q3' HNA.out).mono ?_); rintro e s4 ⟨rfl, z4⟩)
          have hQ4 := q3'.below z4
          have hC4 := HI3.out.below (f3.trans z4)
          have HY4 := Lib.hid (HY3.out.trans z4)
          clear q3 q3' b3 HS z4
          go_loopw [14] (fun kv wq => ∃ k : Nat, k ≤ i ∧ kv = .int .i64 k ∧ Ext s4 wq) (fun kv _ => i - (intOf kv).toNat)
          case atStart => exact ⟨0, Nat.zero_le _, rfl, Below.refl _ _⟩
          case round =>
            obtain ⟨k, hki, rfl, hx⟩ := hrel
            obtain ⟨ad, hA1, hb1, hc1⟩ := (hQ4.below hx).at_ (k := k) (by rw [ints_length, HNL.out]; omega)
            obtain ⟨bd, hA2, hb2, hc2⟩ := (hC4.below hx).at_ (k := k) (by rw [ints_length]; omega)
            subst hA1 hA2
            rw [ints_getD] at hc1 hc2
            by_cases hkl : k < i
            · rw [HI2.out k hkl] at hc1
              generalize cs.getD k 0 = x at *
              have hkl2 : (k : Int) < (cs.length : Int) := by omega
              go_wp2
              go_quiet (fail)
              go_wp2
              go_roundw
              case rel => exact ⟨k + 1, by omega, by go_num, hx.drewN _⟩
              case measure => simp [intOf]; omega
            · obtain rfl : k = i := by omega
              have hgt := HI3B.out
              generalize cs.getD k 0 = x at *
              generalize ns.getD k 0 = y at *
              have hkl2 : (k : Int) < (cs.length : Int) := by omega
              have hb3 : ((y : Int) == (x : Int)) = false := by simp; omega
              have hb4 : decide ((x : Int) < (y : Int)) = true := by simp; omega
              go_wp2
              go_quiet (fail)
              go_wp2
              go_quiet (fail)
              go_wp2
              go_ret
              exact ⟨rfl, HY4.out.trans ((hx.drewN _).drewN _)⟩
        · have HU := Lib.hid (fun (w' : World) (r : Value) (h : NatV w' r (rankFrom n 0 cs + 1)) => cunr_none (by omega) hln h (by omega))
          have HNN := Lib.hid (next_none HASC.out hnx)
          go_region_held3 (fun w' => w'.cell? ⟨u1.heap.size, 0, none⟩ = some (.slice A1 k1 c1)) (exact HS.out _ (by repeat first | assumption | exact Below.refl _ _ | refine ext_alloc ?_ _ | refine ext_drew ?_ | refine ext_set ?_ (by first | omega | (simp; done) | (simp; omega)) _)) (first
            | (go_at_call 20; (with_reducible refine (nof_e (m := 1) (by omega) (by omega)).mono ?_); rintro e s1 ⟨B1, m1, d1, rfl, q1, z1, _⟩; have f1 : Ext w3 s1 := Ext.trans (by repeat first | assumption | exact Below.refl _ _ | refine ext_alloc ?_ _ | refine ext_drew ?_ | refine ext_set ?_ (by first | omega | (simp; done) | (simp; omega)) _) z1)
            | (go_at_call 21; (with_reducible refine (add_n (NatV.below HP3.out (by repeat first | assumption | exact Below.refl _ _ | refine ext_alloc ?_ _ | refine ext_drew ?_ | refine ext_set ?_ (by first | omega | (simp; done) | (simp; omega)) _)) (NatV.below (CanV.nat q1 (fit_small (by omega))) (by repeat first | assumption | exact Below.refl _ _ | refine ext_alloc ?_ _ | refine ext_drew ?_ | refine ext_set ?_ (by first | omega | (simp; done) | (simp; omega)) _)) (by have := HLK.out; omega) (by have := len_small (x := 1) (by omega); omega)).mono ?_); rintro e s2 ⟨B2, m2, d2, rfl, q2, z2, _⟩; have f2 : Ext w3 s2 := Ext.trans (by repeat first | assumption | exact Below.refl _ _ | refine ext_alloc ?_ _ | refine ext_drew ?_ | refine ext_set ?_ (by first | omega | (simp; done) | (simp; omega)) _) z2)
            | (go_at_call 34; (with_reducible refine (HU.out _ _ (NatV.below (CanV.nat q2 (by have h1 := HLK.out; have h2 := limbsOf_length_add (rankFrom n 0 cs) 1; have h3 := len_small (x := 1) (by omega); unfold Fit; omega)) (by repeat first | assumption | exact Below.refl _ _ | refine ext_alloc ?_ _ | refine ext_drew ?_ | refine ext_set ?_ (by first | omega | (simp; done) | (simp; omega)) _))).mono ?_); rintro e s3 ⟨A3, c3, rfl, q3, z3, _⟩; have f3 : Ext w3 s3 := Ext.trans (by repeat first | assumption | exact Below.refl _ _ | refine ext_alloc ?_ _ | refine ext_drew ?_ | refine ext_set ?_ (by first | omega | (simp; done) | (simp; omega)) _) z3))
          have HY3 := Lib.hid (HY.out.trans f3)
          have hC3 := HI3.out.below f3
          clear q3 b3 HS
          go_wp2
          go_loopw [13] (fun kv wq => ∃ k : Nat, k ≤ cs.length ∧ kv = .int .i64 k ∧ Ext s3 wq) (fun kv _ => cs.length - (intOf kv).toNat)
          case atStart => exact ⟨0, Nat.zero_le _, rfl, Below.refl _ _⟩
          case round =>
            obtain ⟨k, hkl, rfl, hx⟩ := hrel
            by_cases hk2 : k < cs.length
            · obtain ⟨bd, hA2, hb2, hc2⟩ := (hC3.below hx).at_ (k := k) (by rw [ints_length]; exact hk2)
              subst hA2
              rw [ints_getD, HNN.out k hk2] at hc2
              have hval : ((n - cs.length + k : Nat) : Int) = (n : Int) - (cs.length : Int) + (k : Int) := by omega
              rw [hval] at hc2
              clear hval
              go_wp2
              go_roundw
              case rel => exact ⟨k + 1, by omega, by go_num, hx⟩
              case measure => simp [intOf]; omega
            · go_wp2
              go_ret
              exact ⟨rfl, HY3.out.trans hx⟩

end Go.Proofs.YthikgbgmnlmmlaaDoor
