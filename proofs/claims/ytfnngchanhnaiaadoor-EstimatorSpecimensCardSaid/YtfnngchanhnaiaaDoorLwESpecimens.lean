/- The walk of EstimatorSpecimens. -/
import Derived.Test.YtfnngchanhnaiaaDoorLwELists
set_option linter.unusedVariables false
set_option linter.unusedSimpArgs false
set_option maxRecDepth 100000
namespace Go.Proofs.YtfnngchanhnaiaaDoor
open Go.RowKit Num

/-- How many of the first i specimens show a die that none before them shows. -/
theorem nd_snoc {side : Int} {l : List Sp} {i : Nat} {s : Sp} (h : l[i]? = some s) (hok : AllOk l) : ndN (dies side (l.take (i + 1))) 1000 = ndN (dies side (l.take i)) 1000 + if dieOf side s ∈ dies side (l.take i) then 0 else 1 := by
  rw [dies_snoc h, ndN_snoc]
  have hs := hok s (List.mem_of_getElem? h)
  have h2 := hs.1
  have h3 := hs.2.1
  have hd : 0 ≤ dieOf side s ∧ dieOf side s < ((1000 : Nat) : Int) := by unfold dieOf; split <;> omega
  by_cases hm : dieOf side s ∈ dies side (l.take i)
  · rw [if_neg (fun h => h.2 hm), if_pos hm]
  · rw [if_pos ⟨hd, hm⟩, if_neg hm]
theorem dies_in {side : Int} {l : List Sp} (hok : AllOk l) : ∀ d ∈ dies side l, 0 ≤ d ∧ d < ((1000 : Nat) : Int) := fun d hd => by
  obtain ⟨s, hs, rfl⟩ := List.mem_map.1 hd
  have h1 := hok s hs
  have h2 := h1.1
  have h3 := h1.2.1
  unfold dieOf
  split <;> omega
theorem of_sum {side : Int} {l : List Sp} (hok : AllOk l) : (ofN (dies side l) 1000).sum = l.length := by
  rw [sum_ofN (dies_in hok), dies_length]
theorem of_len (side : Int) (l : List Sp) : (ofN (dies side l) 1000).length = ndN (dies side l) 1000 := len_ofN _ _
theorem nd_le {side : Int} {l : List Sp} (hok : AllOk l) : ∀ i, i ≤ l.length → ndN (dies side (l.take i)) 1000 ≤ i
  | 0, _ => by rw [List.take_zero]; exact Nat.le_of_eq (ndN_nil 1000)
  | i + 1, h => by
    obtain ⟨s, hs⟩ : ∃ s, l[i]? = some s := ⟨_, List.getElem?_eq_getElem (by omega)⟩
    rw [nd_snoc hs hok]
    have := nd_le (side := side) hok i (by omega)
    split <;> omega
theorem mem_le_sumI : ∀ {xs : List Int} {y : Int}, (∀ x ∈ xs, 1 ≤ x) → y ∈ xs → y ≤ xs.sum
  | x :: xs, y, h, hy => by
    rw [List.sum_cons]
    have h1 := h x List.mem_cons_self
    have h2 := len_le_sum fun z hz => h z (List.mem_cons_of_mem _ hz)
    rcases List.mem_cons.1 hy with rfl | hy
    · omega
    · have := mem_le_sumI (fun z hz => h z (List.mem_cons_of_mem _ hz)) hy
      omega
theorem of_samp {side : Int} {l : List Sp} (hok : AllOk l) (hl : l.length ≤ 64) (h1 : 1 ≤ l.length) : Samp (ofN (dies side l) 1000) := by
  have hs := of_sum (side := side) hok
  have hm : ∀ x ∈ ofN (dies side l) 1000, 1 ≤ x := fun x hx => mem_ofN hx
  have hl2 := len_le_sum hm
  refine ⟨⟨?_, by omega⟩, fun k hk => ?_, by omega⟩
  · rcases Nat.eq_zero_or_pos (ofN (dies side l) 1000).length with h | h
    · have h0 : ofN (dies side l) 1000 = [] := List.eq_nil_of_length_eq_zero h
      rw [h0] at hs
      simp at hs
      omega
    · exact h
  · have hx := hm _ (List.getElem_mem hk)
    have hb := mem_le_sumI hm (List.getElem_mem hk)
    rw [List.getD_eq_getElem?_getD, List.getElem?_eq_getElem hk]
    show InS _
    unfold InS
    simp only [Option.getD_some]
    omega

theorem IntsV.plE {w : World} {A : Option Addr} {n c k : Nat} {zs : List Int} (h : IntsV w (.slice A n c) zs) (hk : k < zs.length) :
    ∃ b o, A = some ⟨b, o, none⟩ ∧ b < w.heap.size ∧ w.cell? ⟨b, o + k, none⟩ = some (.int .i64 (zs.getD k 0)) := by
  obtain ⟨A0, cap, e, h2, h3, h4⟩ := h
  injection e with e1 e2 e3
  subst e1
  obtain ⟨ad, rfl, hb, hc⟩ := h4.2 (by omega)
  have g0 := hc 0 _ (i64l_get zs (k := 0) (by omega))
  have gk := hc k _ (i64l_get zs hk)
  obtain ⟨bb, o, sp⟩ := ad
  have hsp : sp = none := by have := Go.Proofs.YtfnngchanhnaiaaDoor.cell_spotP g0; simpa [Addr.add] using this
  subst hsp
  have ha : (⟨bb, o, none⟩ : Addr).add k = ⟨bb, o + k, none⟩ := by
    unfold Addr.add
    by_cases hj : k = 0 <;> simp [hj]
  rw [ha] at gk
  exact ⟨bb, o, rfl, hb, gk⟩
theorem take_sum_nn : ∀ {xs : List Int}, (∀ x ∈ xs, 1 ≤ x) → ∀ k, 0 ≤ (xs.take k).sum
  | [], _, k => by simp
  | x :: xs, h, 0 => by simp
  | x :: xs, h, k + 1 => by
    rw [List.take_succ_cons, List.sum_cons]
    have h1 := h x List.mem_cons_self
    have h2 := take_sum_nn (fun z hz => h z (List.mem_cons_of_mem _ hz)) k
    omega
theorem take_sum_le : ∀ {xs : List Int}, (∀ x ∈ xs, 1 ≤ x) → ∀ k, (xs.take k).sum ≤ xs.sum
  | [], _, k => by simp
  | x :: xs, h, 0 => by
    have h1 := h x List.mem_cons_self
    have h2 := len_le_sum fun z hz => h z (List.mem_cons_of_mem _ hz)
    rw [List.take_zero, List.sum_cons, List.sum_nil]
    omega
  | x :: xs, h, k + 1 => by
    rw [List.take_succ_cons, List.sum_cons, List.sum_cons]
    have h2 := take_sum_le (fun z hz => h z (List.mem_cons_of_mem _ hz)) k
    omega

theorem mod2 (a : Int) (ha : -9223372036854775808 ≤ a ∧ a ≤ 9223372036854775807) : ∃ m : Int, (m = 0 ∨ m = 1) ∧ ∀ w : World, Calls Tryd.prog 9 #[.int .i64 a, .int .i64 2] w (fun e w' => e = .returned (.int .i64 m) ∧ w' = w) := by
  have h1 : a.tmod 2 < 2 := Int.tmod_lt_of_pos a (by decide)
  have h2 : -2 < a.tmod 2 := by
    have := Int.lt_tmod_of_pos a (show (0 : Int) < 2 by decide)
    omega
  have hw : IntKind.i64.wrap (a.tmod 2) = a.tmod 2 := wrap_in (by omega)
  by_cases hn : a.tmod 2 < 0
  · refine ⟨a.tmod 2 + 2, by omega, fun w => ?_⟩
    have hw2 : IntKind.i64.wrap (a.tmod 2 + 2) = a.tmod 2 + 2 := wrap_in (by omega)
    go_enter Tryd.func9, Tryd.ntmps9
    go_wp2
    go_ret
    exact ⟨rfl, rfl⟩
  · refine ⟨a.tmod 2, by omega, fun w => ?_⟩
    go_enter Tryd.func9, Tryd.ntmps9
    go_wp2
    go_ret
    exact ⟨rfl, rfl⟩

set_option maxHeartbeats 16000000 in
theorem specs_ok0 {l : List Sp} {A : Option Addr} {c : Nat} {side : Int} {w : World} (hv : SpecsV w (.slice A l.length c) l) (hl : l.length ≤ 64) (h1 : 1 ≤ l.length) (hok : AllOk l) (hnd : (ids l).Nodup) (ht : Tab10 w)
    (hm : ∀ w', Calls Tryd.prog 9 #[.int .i64 side, .int .i64 2] w' (fun e w'' => e = .returned (.int .i64 0) ∧ w'' = w')) :
    Calls Tryd.prog 4 #[.slice A l.length c, .int .i64 side] w (fun e w' => e = .returned (.bool true) ∧ Ext w w') := by
  have HV := Lib.hid (fun (w' : World) (h : Ext w w') => hv.below h)
  have HC := Lib.hid (fun (w' : World) (h : Ext w w') => eof_ok0 (hv.below h) hl h1 hok hnd)
  have HM := Lib.hid hm
  have HOS := Lib.hid (of_sum (side := 0) hok)
  have HOL := Lib.hid (of_len 0 l)
  have HNS := Lib.hid (fun (i : Nat) (s : Sp) (h : l[i]? = some s) => nd_snoc (side := 0) h hok)
  have HNL := Lib.hid (fun (i : Nat) (h : i ≤ l.length) => nd_le (side := 0) hok i h)
  have HSA := Lib.hid (of_samp (side := 0) hok hl h1)
  have HMX := Lib.hid (fun (x : Int) (h : x ∈ ofN (dies 0 l) 1000) => mem_le_sumI (fun x hx => mem_ofN hx) h)
  have HMN := Lib.hid (fun (x : Int) (h : x ∈ ofN (dies 0 l) 1000) => mem_ofN h)
  obtain ⟨n, hn⟩ : ∃ n, n = l.length := ⟨_, rfl⟩
  obtain ⟨zs, hzs⟩ : ∃ zs, zs = ofN (dies 0 l) 1000 := ⟨_, rfl⟩
  rw [← hzs] at HC HOS HOL HSA HMX HMN
  rw [← hn] at HV HC HOS HNL hl h1 ⊢
  have HN := Lib.hid hn
  have e0 : decide ((80 : Int) < (n : Int)) = false := decide_eq_false (by omega)
  have e0' : ¬ 80 < n := by omega
  clear hv hm hok hnd hn hzs
  go_enter Tryd.func4, Tryd.ntmps4
  go_wp2_with fail
  refine (eawake ht).mono ?_
  rintro e U1 ⟨rfl, V1⟩
  clear ht
  go_wp2_with fail
  refine (HM.out _).mono ?_
  rintro e U2 ⟨rfl, hU2⟩
  obtain rfl : U1 = U2 := hU2.symm
  go_wp2_with fail
  refine (HC.out _ V1).mono ?_
  rintro e U3 ⟨AF, cF, rfl, hI, y3, _⟩
  have V3 := V1.trans y3
  have HI := Lib.hid (fun (w' : World) (h : Ext U3 w') => hI.below h)
  obtain ⟨m, hmz⟩ : ∃ m, m = zs.length := ⟨_, rfl⟩
  rw [← hmz] at hI HI HOL ⊢
  have HMZ := Lib.hid hmz
  clear hI hmz
  go_wp2
  go_loopw [7, 8] (fun sv iv wr => ∃ k : Nat, k ≤ m ∧ iv = .int .i64 k ∧ sv = .int .i64 ((zs.take k).sum) ∧ wr = U3) (fun _ iv _ => m - (intOf iv).toNat)
  case atStart => exact ⟨0, Nat.zero_le _, rfl, rfl, by trivial⟩
  case round =>
    obtain ⟨k, hk, rfl, rfl, hwr⟩ := hrel
    subst wr
    by_cases hkm : k < m
    · have hkz : k < zs.length := by rw [← HMZ.out]; exact hkm
      obtain ⟨b, o, rfl, hb, hc⟩ := (HI.out _ (Below.refl _ _)).plE hkz
      have hx1 := HMN.out _ (List.getElem_mem hkz)
      have hx2 := HMX.out _ (List.getElem_mem hkz)
      rw [HOS.out] at hx2
      have hts : (zs.take (k + 1)).sum = (zs.take k).sum + zs.getD k 0 := by
        rw [List.take_add_one, List.getElem?_eq_getElem hkz, List.sum_append, List.getD_eq_getElem?_getD, List.getElem?_eq_getElem hkz]
        simp
      have hxe : zs.getD k 0 = zs[k] := by rw [List.getD_eq_getElem?_getD, List.getElem?_eq_getElem hkz]; rfl
      have htl := take_sum_le (fun x hx => HMN.out x hx) k
      have htl0 := take_sum_nn (fun x hx => HMN.out x hx) k
      rw [HOS.out] at htl
      rw [← hxe] at hx1 hx2
      obtain ⟨x, hx⟩ : ∃ x, x = zs.getD k 0 := ⟨_, rfl⟩
      obtain ⟨s, hs⟩ : ∃ s, s = (zs.take k).sum := ⟨_, rfl⟩
      rw [← hx] at hc hx1 hx2 hts
      rw [← hs] at htl htl0 hts ⊢
      have HTS := Lib.hid hts
      have hi1 : (0 : Int) ≤ (k : Int) := by omega
      have hi2 : (k : Int) < (m : Int) := by omega
      have hwk : IntKind.i64.wrap ((k : Int) + 1) = (k : Int) + 1 := wrap_in (by have h1 := (HNL.out n (Nat.le_refl _)); have h2 := HOL.out; have h3 := HN.out; rw [h3, List.take_length] at h1; omega)
      have hws : IntKind.i64.wrap (s + x) = s + x := wrap_in (by omega)
      clear hx hs hxe hts hkz
      go_wp2
      go_roundw
      case rel => exact ⟨k + 1, by omega, by go_num, by rw [HTS.out], by trivial⟩
      case measure => simp [intOf]; omega
    · obtain rfl : k = m := by omega
      have hkk : ¬ ((k : Int) < (k : Int)) := by omega
      have htk : (zs.take k).sum = (n : Int) := by rw [HMZ.out, List.take_length]; exact HOS.out
      rw [htk]
      clear htk
      go_wp2
      go_loopw [9, 10] (fun dv iv wr => ∃ i : Nat, i ≤ n ∧ iv = .int .i64 i ∧ dv = .int .i64 (ndN (dies 0 (l.take i)) 1000 : Nat) ∧ Ext U3 wr) (fun _ iv _ => n - (intOf iv).toNat)
      case atStart => exact ⟨0, Nat.zero_le _, rfl, by rw [List.take_zero]; exact congrArg (fun x : Nat => Value.int .i64 (x : Int)) (ndN_nil 1000).symm, Below.refl _ _⟩
      case round =>
        obtain ⟨i, hi, rfl, rfl, hX⟩ := hrel
        by_cases hin : i < n
        · obtain ⟨s, hs⟩ : ∃ s, l[i]? = some s := ⟨_, List.getElem?_eq_getElem (by rw [← HN.out]; exact hin)⟩
          have HSI := Lib.hid hs
          have HNK := Lib.hid (HNS.out i s hs)
          have hi1 : (0 : Int) ≤ (i : Int) := by omega
          have hi2 : (i : Int) < (n : Int) := by omega
          have hwi : IntKind.i64.wrap ((i : Int) + 1) = (i : Int) + 1 := wrap_in (by omega)
          have hnl := HNL.out i (by omega)
          obtain ⟨D, hD⟩ : ∃ D, D = ndN (dies 0 (l.take i)) 1000 := ⟨_, rfl⟩
          rw [← hD] at hnl HNK ⊢
          have hwD : IntKind.i64.wrap ((D : Int) + 1) = (D : Int) + 1 := wrap_in (by omega)
          obtain ⟨wo, hwo⟩ : ∃ wo, wo = wr := ⟨_, rfl⟩
          subst hwo
          clear hs hD
          go_wp2
          go_loopw [11, 12] (fun kv iv wr => ∃ k : Nat, k ≤ i ∧ iv = .int .i64 k ∧ kv = .bool (decide (dieOf 0 s ∈ dies 0 (l.take k))) ∧ Ext U3 wr) (fun _ iv _ => i - (intOf iv).toNat)
          case atStart => exact ⟨0, Nat.zero_le _, rfl, by rw [List.take_zero]; rfl, hX⟩
          case round =>
            obtain ⟨k, hk, rfl, rfl, hY⟩ := hrel
            by_cases hkm : k < i
            · obtain ⟨s2, hs2⟩ : ∃ s2, l[k]? = some s2 := ⟨_, List.getElem?_eq_getElem (by rw [← HN.out]; omega)⟩
              obtain ⟨b, o, rfl, hb, c0, c1, c2, c3, c4, c5, c6⟩ := (HV.out _ (V3.trans hY)).pl HSI.out
              obtain ⟨b', o', hbo, hb', d0, d1, d2, d3, d4, d5, d6⟩ := (HV.out _ (V3.trans hY)).pl hs2
              obtain ⟨rfl, rfl⟩ : b = b' ∧ o = o' := by injection hbo with h; injection h with h1 h2; exact ⟨h1, h2⟩
              have HSN := Lib.hid (dies_snoc (side := 0) hs2)
              have hk1 : (0 : Int) ≤ (k : Int) := by omega
              have hk2 : (k : Int) < (n : Int) := by omega
              have hk3 : (k : Int) < (i : Int) := by omega
              have hwk : IntKind.i64.wrap ((k : Int) + 1) = (k : Int) + 1 := wrap_in (by omega)
              have HD1 := Lib.hid (show dieOf 0 s = s.obv from rfl)
              have HD2 := Lib.hid (show dieOf 0 s2 = s2.obv from rfl)
              clear hs2 c0 c2 c3 c4 c5 c6 d0 d2 d3 d4 d5 d6 hbo hb'
              by_cases hkn : dieOf 0 s ∈ dies 0 (l.take k)
              · have hdk : decide (dieOf 0 s ∈ dies 0 (l.take k)) = true := decide_eq_true hkn
                have HR := Lib.hid (show decide (dieOf 0 s ∈ dies 0 (l.take (k + 1))) = true from decide_eq_true (by rw [HSN.out]; exact List.mem_append_left _ hkn))
                rw [hdk]
                clear hdk hkn
                go_wp2
                go_quiet (fail)
                go_wp2
                go_roundw
                case rel => exact ⟨k + 1, by omega, by go_num, by rw [HR.out], hY.drewN _⟩
                case measure => simp [intOf]; omega
              · have hdk : decide (dieOf 0 s ∈ dies 0 (l.take k)) = false := decide_eq_false hkn
                by_cases hq : s2.obv = s.obv
                · have HR := Lib.hid (show decide (dieOf 0 s ∈ dies 0 (l.take (k + 1))) = true from decide_eq_true (by rw [HSN.out, HD1.out, HD2.out, hq]; exact List.mem_append_right _ List.mem_cons_self))
                  rw [hq] at d1
                  rw [hdk]
                  clear hdk hkn hq
                  go_wp2
                  go_quiet (fail)
                  go_wp2
                  go_roundw
                  case rel => exact ⟨k + 1, by omega, by go_num, by rw [HR.out], hY.drewN _⟩
                  case measure => simp [intOf]; omega
                · have HR := Lib.hid (show decide (dieOf 0 s ∈ dies 0 (l.take (k + 1))) = false from decide_eq_false (by rw [HSN.out, List.mem_append, List.mem_singleton, HD1.out, HD2.out]; rintro (h | h); exact hkn (by rw [HD1.out]; exact h); exact hq h.symm))
                  have hq1 : (s2.obv == s.obv) = false := by rw [beq_eq_false_iff_ne]; exact hq
                  rw [hdk]
                  clear hdk hkn
                  go_wp2
                  go_quiet (fail)
                  go_wp2
                  go_roundw
                  case rel => exact ⟨k + 1, by omega, by go_num, by rw [HR.out], hY.drewN _⟩
                  case measure => simp [intOf]; omega
            · obtain rfl : k = i := by omega
              have hkk : ¬ ((k : Int) < (k : Int)) := by omega
              by_cases hkn : dieOf 0 s ∈ dies 0 (l.take k)
              · have hdk : decide (dieOf 0 s ∈ dies 0 (l.take k)) = true := decide_eq_true hkn
                rw [if_pos hkn] at HNK
                rw [hdk]
                clear hdk hkn
                go_wp2
                go_roundw
                case rel => exact ⟨k + 1, by omega, by go_num, by rw [HNK.out]; rfl, hY⟩
                case measure => simp [intOf]; omega
              · have hdk : decide (dieOf 0 s ∈ dies 0 (l.take k)) = false := decide_eq_false hkn
                rw [if_neg hkn] at HNK
                rw [hdk]
                clear hdk hkn
                go_wp2
                go_roundw
                case rel => exact ⟨k + 1, by omega, by go_num, by rw [HNK.out]; rfl, hY⟩
                case measure => simp [intOf]; omega
        · obtain rfl : i = n := by omega
          have hii : ¬ ((i : Int) < (i : Int)) := by omega
          have hDm : ndN (dies 0 (l.take i)) 1000 = k := by rw [HN.out, List.take_length]; exact HOL.out.symm
          rw [hDm]
          clear hDm
          go_wp2_with (go_at_call 10; (with_reducible refine (efreq_ok (HI.out _ hX) HSA.out).mono ?_); rintro _ s1 ⟨AF, cF, rfl, hF, x1, _⟩)
          go_ret
          exact ⟨rfl, V3.trans (hX.trans x1)⟩

set_option maxHeartbeats 16000000 in
theorem specs_ok1 {l : List Sp} {A : Option Addr} {c : Nat} {side : Int} {w : World} (hv : SpecsV w (.slice A l.length c) l) (hl : l.length ≤ 64) (h1 : 1 ≤ l.length) (hok : AllOk l) (hnd : (ids l).Nodup) (ht : Tab10 w)
    (hm : ∀ w', Calls Tryd.prog 9 #[.int .i64 side, .int .i64 2] w' (fun e w'' => e = .returned (.int .i64 1) ∧ w'' = w')) :
    Calls Tryd.prog 4 #[.slice A l.length c, .int .i64 side] w (fun e w' => e = .returned (.bool true) ∧ Ext w w') := by
  have HV := Lib.hid (fun (w' : World) (h : Ext w w') => hv.below h)
  have HC := Lib.hid (fun (w' : World) (h : Ext w w') => eof_ok1 (hv.below h) hl h1 hok hnd)
  have HM := Lib.hid hm
  have HOS := Lib.hid (of_sum (side := 1) hok)
  have HOL := Lib.hid (of_len 1 l)
  have HNS := Lib.hid (fun (i : Nat) (s : Sp) (h : l[i]? = some s) => nd_snoc (side := 1) h hok)
  have HNL := Lib.hid (fun (i : Nat) (h : i ≤ l.length) => nd_le (side := 1) hok i h)
  have HSA := Lib.hid (of_samp (side := 1) hok hl h1)
  have HMX := Lib.hid (fun (x : Int) (h : x ∈ ofN (dies 1 l) 1000) => mem_le_sumI (fun x hx => mem_ofN hx) h)
  have HMN := Lib.hid (fun (x : Int) (h : x ∈ ofN (dies 1 l) 1000) => mem_ofN h)
  obtain ⟨n, hn⟩ : ∃ n, n = l.length := ⟨_, rfl⟩
  obtain ⟨zs, hzs⟩ : ∃ zs, zs = ofN (dies 1 l) 1000 := ⟨_, rfl⟩
  rw [← hzs] at HC HOS HOL HSA HMX HMN
  rw [← hn] at HV HC HOS HNL hl h1 ⊢
  have HN := Lib.hid hn
  have e0 : decide ((80 : Int) < (n : Int)) = false := decide_eq_false (by omega)
  have e0' : ¬ 80 < n := by omega
  clear hv hm hok hnd hn hzs
  go_enter Tryd.func4, Tryd.ntmps4
  go_wp2_with fail
  refine (eawake ht).mono ?_
  rintro e U1 ⟨rfl, V1⟩
  clear ht
  go_wp2_with fail
  refine (HM.out _).mono ?_
  rintro e U2 ⟨rfl, hU2⟩
  obtain rfl : U1 = U2 := hU2.symm
  go_wp2_with fail
  refine (HC.out _ V1).mono ?_
  rintro e U3 ⟨AF, cF, rfl, hI, y3, _⟩
  have V3 := V1.trans y3
  have HI := Lib.hid (fun (w' : World) (h : Ext U3 w') => hI.below h)
  obtain ⟨m, hmz⟩ : ∃ m, m = zs.length := ⟨_, rfl⟩
  rw [← hmz] at hI HI HOL ⊢
  have HMZ := Lib.hid hmz
  clear hI hmz
  go_wp2
  go_loopw [7, 8] (fun sv iv wr => ∃ k : Nat, k ≤ m ∧ iv = .int .i64 k ∧ sv = .int .i64 ((zs.take k).sum) ∧ wr = U3) (fun _ iv _ => m - (intOf iv).toNat)
  case atStart => exact ⟨0, Nat.zero_le _, rfl, rfl, by trivial⟩
  case round =>
    obtain ⟨k, hk, rfl, rfl, hwr⟩ := hrel
    subst wr
    by_cases hkm : k < m
    · have hkz : k < zs.length := by rw [← HMZ.out]; exact hkm
      obtain ⟨b, o, rfl, hb, hc⟩ := (HI.out _ (Below.refl _ _)).plE hkz
      have hx1 := HMN.out _ (List.getElem_mem hkz)
      have hx2 := HMX.out _ (List.getElem_mem hkz)
      rw [HOS.out] at hx2
      have hts : (zs.take (k + 1)).sum = (zs.take k).sum + zs.getD k 0 := by
        rw [List.take_add_one, List.getElem?_eq_getElem hkz, List.sum_append, List.getD_eq_getElem?_getD, List.getElem?_eq_getElem hkz]
        simp
      have hxe : zs.getD k 0 = zs[k] := by rw [List.getD_eq_getElem?_getD, List.getElem?_eq_getElem hkz]; rfl
      have htl := take_sum_le (fun x hx => HMN.out x hx) k
      have htl0 := take_sum_nn (fun x hx => HMN.out x hx) k
      rw [HOS.out] at htl
      rw [← hxe] at hx1 hx2
      obtain ⟨x, hx⟩ : ∃ x, x = zs.getD k 0 := ⟨_, rfl⟩
      obtain ⟨s, hs⟩ : ∃ s, s = (zs.take k).sum := ⟨_, rfl⟩
      rw [← hx] at hc hx1 hx2 hts
      rw [← hs] at htl htl0 hts ⊢
      have HTS := Lib.hid hts
      have hi1 : (0 : Int) ≤ (k : Int) := by omega
      have hi2 : (k : Int) < (m : Int) := by omega
      have hwk : IntKind.i64.wrap ((k : Int) + 1) = (k : Int) + 1 := wrap_in (by have h1 := (HNL.out n (Nat.le_refl _)); have h2 := HOL.out; have h3 := HN.out; rw [h3, List.take_length] at h1; omega)
      have hws : IntKind.i64.wrap (s + x) = s + x := wrap_in (by omega)
      clear hx hs hxe hts hkz
      go_wp2
      go_roundw
      case rel => exact ⟨k + 1, by omega, by go_num, by rw [HTS.out], by trivial⟩
      case measure => simp [intOf]; omega
    · obtain rfl : k = m := by omega
      have hkk : ¬ ((k : Int) < (k : Int)) := by omega
      have htk : (zs.take k).sum = (n : Int) := by rw [HMZ.out, List.take_length]; exact HOS.out
      rw [htk]
      clear htk
      go_wp2
      go_loopw [9, 10] (fun dv iv wr => ∃ i : Nat, i ≤ n ∧ iv = .int .i64 i ∧ dv = .int .i64 (ndN (dies 1 (l.take i)) 1000 : Nat) ∧ Ext U3 wr) (fun _ iv _ => n - (intOf iv).toNat)
      case atStart => exact ⟨0, Nat.zero_le _, rfl, by rw [List.take_zero]; exact congrArg (fun x : Nat => Value.int .i64 (x : Int)) (ndN_nil 1000).symm, Below.refl _ _⟩
      case round =>
        obtain ⟨i, hi, rfl, rfl, hX⟩ := hrel
        by_cases hin : i < n
        · obtain ⟨s, hs⟩ : ∃ s, l[i]? = some s := ⟨_, List.getElem?_eq_getElem (by rw [← HN.out]; exact hin)⟩
          have HSI := Lib.hid hs
          have HNK := Lib.hid (HNS.out i s hs)
          have hi1 : (0 : Int) ≤ (i : Int) := by omega
          have hi2 : (i : Int) < (n : Int) := by omega
          have hwi : IntKind.i64.wrap ((i : Int) + 1) = (i : Int) + 1 := wrap_in (by omega)
          have hnl := HNL.out i (by omega)
          obtain ⟨D, hD⟩ : ∃ D, D = ndN (dies 1 (l.take i)) 1000 := ⟨_, rfl⟩
          rw [← hD] at hnl HNK ⊢
          have hwD : IntKind.i64.wrap ((D : Int) + 1) = (D : Int) + 1 := wrap_in (by omega)
          obtain ⟨wo, hwo⟩ : ∃ wo, wo = wr := ⟨_, rfl⟩
          subst hwo
          clear hs hD
          go_wp2
          go_loopw [11, 12] (fun kv iv wr => ∃ k : Nat, k ≤ i ∧ iv = .int .i64 k ∧ kv = .bool (decide (dieOf 1 s ∈ dies 1 (l.take k))) ∧ Ext U3 wr) (fun _ iv _ => i - (intOf iv).toNat)
          case atStart => exact ⟨0, Nat.zero_le _, rfl, by rw [List.take_zero]; rfl, hX⟩
          case round =>
            obtain ⟨k, hk, rfl, rfl, hY⟩ := hrel
            by_cases hkm : k < i
            · obtain ⟨s2, hs2⟩ : ∃ s2, l[k]? = some s2 := ⟨_, List.getElem?_eq_getElem (by rw [← HN.out]; omega)⟩
              obtain ⟨b, o, rfl, hb, c0, c1, c2, c3, c4, c5, c6⟩ := (HV.out _ (V3.trans hY)).pl HSI.out
              obtain ⟨b', o', hbo, hb', d0, d1, d2, d3, d4, d5, d6⟩ := (HV.out _ (V3.trans hY)).pl hs2
              obtain ⟨rfl, rfl⟩ : b = b' ∧ o = o' := by injection hbo with h; injection h with h1 h2; exact ⟨h1, h2⟩
              have HSN := Lib.hid (dies_snoc (side := 1) hs2)
              have hk1 : (0 : Int) ≤ (k : Int) := by omega
              have hk2 : (k : Int) < (n : Int) := by omega
              have hk3 : (k : Int) < (i : Int) := by omega
              have hwk : IntKind.i64.wrap ((k : Int) + 1) = (k : Int) + 1 := wrap_in (by omega)
              have HD1 := Lib.hid (show dieOf 1 s = s.rev from rfl)
              have HD2 := Lib.hid (show dieOf 1 s2 = s2.rev from rfl)
              clear hs2 c0 c1 c3 c4 c5 c6 d0 d1 d3 d4 d5 d6 hbo hb'
              by_cases hkn : dieOf 1 s ∈ dies 1 (l.take k)
              · have hdk : decide (dieOf 1 s ∈ dies 1 (l.take k)) = true := decide_eq_true hkn
                have HR := Lib.hid (show decide (dieOf 1 s ∈ dies 1 (l.take (k + 1))) = true from decide_eq_true (by rw [HSN.out]; exact List.mem_append_left _ hkn))
                rw [hdk]
                clear hdk hkn
                go_wp2
                go_quiet (fail)
                go_wp2
                go_roundw
                case rel => exact ⟨k + 1, by omega, by go_num, by rw [HR.out], hY.drewN _⟩
                case measure => simp [intOf]; omega
              · have hdk : decide (dieOf 1 s ∈ dies 1 (l.take k)) = false := decide_eq_false hkn
                by_cases hq : s2.rev = s.rev
                · have HR := Lib.hid (show decide (dieOf 1 s ∈ dies 1 (l.take (k + 1))) = true from decide_eq_true (by rw [HSN.out, HD1.out, HD2.out, hq]; exact List.mem_append_right _ List.mem_cons_self))
                  rw [hq] at d2
                  rw [hdk]
                  clear hdk hkn hq
                  go_wp2
                  go_quiet (fail)
                  go_wp2
                  go_roundw
                  case rel => exact ⟨k + 1, by omega, by go_num, by rw [HR.out], hY.drewN _⟩
                  case measure => simp [intOf]; omega
                · have HR := Lib.hid (show decide (dieOf 1 s ∈ dies 1 (l.take (k + 1))) = false from decide_eq_false (by rw [HSN.out, List.mem_append, List.mem_singleton, HD1.out, HD2.out]; rintro (h | h); exact hkn (by rw [HD1.out]; exact h); exact hq h.symm))
                  have hq1 : (s2.rev == s.rev) = false := by rw [beq_eq_false_iff_ne]; exact hq
                  rw [hdk]
                  clear hdk hkn
                  go_wp2
                  go_quiet (fail)
                  go_wp2
                  go_roundw
                  case rel => exact ⟨k + 1, by omega, by go_num, by rw [HR.out], hY.drewN _⟩
                  case measure => simp [intOf]; omega
            · obtain rfl : k = i := by omega
              have hkk : ¬ ((k : Int) < (k : Int)) := by omega
              by_cases hkn : dieOf 1 s ∈ dies 1 (l.take k)
              · have hdk : decide (dieOf 1 s ∈ dies 1 (l.take k)) = true := decide_eq_true hkn
                rw [if_pos hkn] at HNK
                rw [hdk]
                clear hdk hkn
                go_wp2
                go_roundw
                case rel => exact ⟨k + 1, by omega, by go_num, by rw [HNK.out]; rfl, hY⟩
                case measure => simp [intOf]; omega
              · have hdk : decide (dieOf 1 s ∈ dies 1 (l.take k)) = false := decide_eq_false hkn
                rw [if_neg hkn] at HNK
                rw [hdk]
                clear hdk hkn
                go_wp2
                go_roundw
                case rel => exact ⟨k + 1, by omega, by go_num, by rw [HNK.out]; rfl, hY⟩
                case measure => simp [intOf]; omega
        · obtain rfl : i = n := by omega
          have hii : ¬ ((i : Int) < (i : Int)) := by omega
          have hDm : ndN (dies 1 (l.take i)) 1000 = k := by rw [HN.out, List.take_length]; exact HOL.out.symm
          rw [hDm]
          clear hDm
          go_wp2_with (go_at_call 10; (with_reducible refine (efreq_ok (HI.out _ hX) HSA.out).mono ?_); rintro _ s1 ⟨AF, cF, rfl, hF, x1, _⟩)
          go_ret
          exact ⟨rfl, V3.trans (hX.trans x1)⟩


set_option maxHeartbeats 8000000 in
theorem specs_err {n c : Nat} {A : Option Addr} {side z : Int} {w : World} (hn : n ≤ 80) (hz : z ≠ 0) (ht : Tab10 w) (hC : ∀ w' m, Ext w w' → (m = 0 ∨ m = 1) → Calls Tryd.prog 6 #[.slice A n c, .int .i64 m] w' (GivesI w' [] z))
    {m : Int} (hm01 : m = 0 ∨ m = 1) (hm : ∀ w', Calls Tryd.prog 9 #[.int .i64 side, .int .i64 2] w' (fun e w'' => e = .returned (.int .i64 m) ∧ w'' = w')) :
    Calls Tryd.prog 4 #[.slice A n c, .int .i64 side] w (fun e w' => e = .returned (.bool true) ∧ Ext w w') := by
  have HC := Lib.hid hC
  have HM := Lib.hid hm
  have H01 := Lib.hid hm01
  have e0 : decide ((80 : Int) < (n : Int)) = false := decide_eq_false (by omega)
  have e0' : ¬ 80 < n := by omega
  have ez : (z != 0) = true := bne_iff_ne.2 hz
  clear hC hm hm01 hz
  go_enter Tryd.func4, Tryd.ntmps4
  go_wp2_with fail
  refine (eawake ht).mono ?_
  rintro e U1 ⟨rfl, V1⟩
  clear ht
  go_wp2_with fail
  refine (HM.out _).mono ?_
  rintro e U2 ⟨rfl, hU2⟩
  obtain rfl : U1 = U2 := hU2.symm
  go_wp2_with fail
  refine (HC.out _ _ V1 H01.out).mono ?_
  rintro e U3 ⟨AF, cF, rfl, hI, y3, _⟩
  go_wp2
  go_ret
  exact ⟨rfl, V1.trans y3⟩

set_option maxHeartbeats 8000000 in
theorem law_ESpecimens {side : Int} {l : List Sp} {v : Value} {w : World} (hv : SpecsV w v l) (hs : -9223372036854775808 ≤ side ∧ side ≤ 9223372036854775807) (ht : Tab10 w) :
    Calls Tryd.prog 4 #[v, .int .i64 side] w (fun e w' => e = .returned (.bool true) ∧ Ext w w') := by
  obtain ⟨A, c, rfl, _⟩ := id hv
  by_cases hl : l.length ≤ 80
  · obtain ⟨m, hm01, hm⟩ := mod2 side hs
    by_cases h64 : l.length ≤ 64
    · obtain ⟨z, hz, hz0⟩ := chk_ex l
      by_cases h0 : z = 0
      · obtain ⟨h1, h2⟩ := hz0 h0
        subst h0
        by_cases hn : l.length = 0
        · have h := fun w' (hx : Ext w w') => scheck_n (hv.below hx) h64 hz
          rw [hn] at h hl ⊢
          exact specs_err (z := 7) (by omega) (by decide) ht (fun w' mm hx hmm => eof_none hmm (h w' hx)) hm01 hm
        · rcases hm01 with rfl | rfl
          · exact specs_ok0 hv h64 (by omega) h1 h2 ht hm
          · exact specs_ok1 hv h64 (by omega) h1 h2 ht hm
      · exact specs_err hl h0 ht (fun w' mm hx hmm => eof_err h0 (scheck_n (hv.below hx) h64 hz)) hm01 hm
    · exact specs_err hl (by decide) ht (fun w' mm hx hmm => eof_err (by decide) (scheck_full (by omega))) hm01 hm
  · have HT := Lib.hid (fun (w' : World) (h : Ext w w') => ht.ext h)
    have e0 : decide ((80 : Int) < (l.length : Int)) = true := decide_eq_true (by omega)
    have e0' : 80 < l.length := by omega
    go_enter Tryd.func4, Tryd.ntmps4
    go_wp2_with fail
    refine (eawake ht).mono ?_
    rintro e U0 ⟨rfl, V0⟩
    go_wp2_with fail
    refine (eawake (HT.out _ V0)).mono ?_
    rintro e U1 ⟨rfl, V1⟩
    go_wp2
    go_ret
    exact ⟨rfl, V0.trans V1⟩

end Go.Proofs.YtfnngchanhnaiaaDoor
