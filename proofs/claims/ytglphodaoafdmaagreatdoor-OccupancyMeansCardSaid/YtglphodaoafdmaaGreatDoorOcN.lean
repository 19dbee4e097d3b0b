/- occupancy: Unequal; the reference's Uses. -/
import Derived.Test.YtglphodaoafdmaaGreatDoorOccE
import Derived.Test.YtglphodaoafdmaaGreatDoorHold
import Derived.Test.YtglphodaoafdmaaGreatDoorKeep
import Derived.Test.YtglphodaoafdmaaGreatDoorOcRT
import Derived.Test.YtglphodaoafdmaaGreatDoorFrlS
set_option linter.unusedVariables false
set_option linter.unusedSimpArgs false
set_option maxRecDepth 100000
namespace Go.Proofs.YtglphodaoafdmaaGreatDoor
open Go.RowKit Num

theorem IntsV.pl {w : World} {A : Option Addr} {n c k : Nat} {zs : List Int} (h : IntsV w (.slice A n c) zs) (hk : k < zs.length) :
    ∃ b o, A = some ⟨b, o, none⟩ ∧ b < w.heap.size ∧ w.cell? ⟨b, o + k, none⟩ = some (.int .i64 (zs.getD k 0)) := by
  obtain ⟨ad, rfl, hb, hc⟩ := h.at_ hk
  obtain ⟨ad0, e0, _, hc0⟩ := h.at_ (k := 0) (by omega)
  injection e0 with e0
  subst e0
  rw [add_nought] at hc0
  obtain ⟨bb, o, sp⟩ := ad
  have hsp : sp = none := cell_spotT hc0
  subst hsp
  have ha : (⟨bb, o, none⟩ : Addr).add k = ⟨bb, o + k, none⟩ := by
    unfold Addr.add
    by_cases hj : k = 0 <;> simp [hj]
  rw [ha] at hc
  exact ⟨bb, o, rfl, hb, hc⟩
theorem getD_mem {us : List Int} {k : Nat} (hk : k < us.length) : us.getD k 0 ∈ us := by
  rw [List.getD_eq_getElem?_getD, List.getElem?_eq_getElem hk]
  exact List.getElem_mem hk

/-- The uses are within their limits. -/
def UsesIn (us : List Int) : Prop := ∀ u ∈ us, 1 ≤ u ∧ u ≤ 100
abbrev wrongF : Value := .func (.func 25) #[] #[]
theorem owrong_f {u : Int} {w : World} (h1 : 1 ≤ u) (h2 : u ≤ 100) : Calls Tryz.prog 25 #[.int .i64 u] w (fun e w' => e = .returned (.bool false) ∧ w' = w) := by
  have h3 : ¬ u < 1 := by omega
  have h4 : ¬ 100 < u := by omega
  go_enter Tryz.func25, Tryz.ntmps25
  go_wp2
  go_ret
  exact ⟨rfl, rfl⟩
theorem owrong_t {u : Int} {w : World} (h : u < 1 ∨ 100 < u) : Calls Tryz.prog 25 #[.int .i64 u] w (fun e w' => e = .returned (.bool true) ∧ w' = w) := by
  by_cases h1 : u < 1
  · clear h
    go_enter Tryz.func25, Tryz.ntmps25
    go_wp2
    go_ret
    exact ⟨rfl, rfl⟩
  · have h2 : 100 < u := by omega
    clear h
    have hd : decide (u < 1) = false := decide_eq_false h1
    go_enter Tryz.func25, Tryz.ntmps25
    go_wp2
    go_ret
    exact ⟨rfl, rfl⟩

theorem oindex_ok {us : List Int} {A : Option Addr} {c : Nat} {w : World} (hv : IntsV w (.slice A us.length c) us) (hu : UsesIn us) (hn : us.length ≤ 1000000) :
    Calls Tryz.prog 48 #[.slice A us.length c, wrongF] w (fun e w' => e = .returned (.int .i64 (-1)) ∧ w' = w) := by
  have HV := Lib.hid hv
  have HU := Lib.hid hu
  clear hv hu
  go_enter Tryz.func48, Tryz.ntmps48
  go_wp2
  go_loop [8] (fun iv => ∃ k : Nat, k ≤ us.length ∧ iv = .int .i64 k) (fun iv => us.length - (intOf iv).toNat)
  case atStart => exact ⟨0, Nat.zero_le _, rfl⟩
  case round =>
    obtain ⟨k, hk, rfl⟩ := hrel
    by_cases hkn : k < us.length
    · obtain ⟨b, o, rfl, hb, hc⟩ := HV.out.pl hkn
      obtain ⟨x, hx⟩ : ∃ x, x = us.getD k 0 := ⟨_, rfl⟩
      obtain ⟨h1, h2⟩ := HU.out _ (getD_mem hkn)
      rw [← hx] at hc h1 h2
      have hi1 : (0 : Int) ≤ (k : Int) := by omega
      have hi2 : (k : Int) < (us.length : Int) := by omega
      clear hx
      go_wp2_with (go_at_call 25; (with_reducible refine (owrong_f h1 h2).mono ?_); rintro _ s1 ⟨rfl, rfl⟩)
      go_round
      case rel => exact ⟨k + 1, by omega, by go_num⟩
      case measure => simp [intOf]; omega
    · go_wp2
      go_ret
      exact ⟨rfl, rfl⟩
def SomeIdx (n : Nat) (w : World) (e : Ending) (w' : World) : Prop := ∃ k : Nat, k < n ∧ e = .returned (.int .i64 k) ∧ w' = w
theorem oindex_no {us : List Int} {A : Option Addr} {c : Nat} {w : World} (hv : IntsV w (.slice A us.length c) us) (hu : ¬ UsesIn us) (hn : us.length ≤ 1000000) :
    Calls Tryz.prog 48 #[.slice A us.length c, wrongF] w (SomeIdx us.length w) := by
  have HV := Lib.hid hv
  have HU := Lib.hid hu
  clear hv hu
  go_enter Tryz.func48, Tryz.ntmps48
  go_wp2
  go_loop [8] (fun iv => ∃ k : Nat, (k ≤ us.length ∧ UsesIn (us.take k)) ∧ iv = .int .i64 k) (fun iv => us.length - (intOf iv).toNat)
  case atStart => exact ⟨0, ⟨Nat.zero_le _, by intro u hu; simp at hu⟩, rfl⟩
  case round =>
    obtain ⟨k, ⟨hk, hu⟩, rfl⟩ := hrel
    by_cases hkn : k < us.length
    · obtain ⟨b, o, rfl, hb, hc⟩ := HV.out.pl hkn
      have HT := Lib.hid hu
      obtain ⟨x, hx⟩ : ∃ x, x = us.getD k 0 := ⟨_, rfl⟩
      have HX := Lib.hid hx
      rw [← hx] at hc
      have hi1 : (0 : Int) ≤ (k : Int) := by omega
      have hi2 : (k : Int) < (us.length : Int) := by omega
      clear hx hu
      by_cases h1 : 1 ≤ x ∧ x ≤ 100
      · obtain ⟨h1, h2⟩ := h1
        go_wp2_with (go_at_call 25; (with_reducible refine (owrong_f h1 h2).mono ?_); rintro _ s1 ⟨rfl, rfl⟩)
        go_round
        case rel => exact ⟨k + 1, ⟨by omega, by
          intro u hu
          rw [List.take_add_one, List.mem_append] at hu
          rcases hu with hu | hu
          · exact HT.out u hu
          · rw [List.getElem?_eq_getElem hkn] at hu
            simp at hu
            subst hu
            rw [HX.out, List.getD_eq_getElem?_getD, List.getElem?_eq_getElem hkn] at h1 h2
            exact ⟨h1, h2⟩⟩, by go_num⟩
        case measure => simp [intOf]; omega
      · have h3 : x < 1 ∨ 100 < x := by omega
        clear h1
        have H3 := Lib.hid h3
        clear h3
        go_wp2_with (go_at_call 25; (with_reducible refine (owrong_t H3.out).mono ?_); rintro _ s1 ⟨rfl, rfl⟩)
        go_ret
        exact ⟨k, hkn, rfl, rfl⟩
    · exfalso
      rw [List.take_of_length_le (by omega)] at hu
      exact HU.out hu
theorem ocontains_ok {us : List Int} {A : Option Addr} {c : Nat} {w : World} (hv : IntsV w (.slice A us.length c) us) (hu : UsesIn us) (hn : us.length ≤ 1000000) :
    Calls Tryz.prog 26 #[.slice A us.length c, wrongF] w (fun e w' => e = .returned (.bool false) ∧ w' = w) := by
  have H := Lib.hid (oindex_ok hv hu hn)
  clear hv hu
  go_enter Tryz.func26, Tryz.ntmps26
  go_wp2_with (go_at_call 48; (with_reducible refine H.out.mono ?_); rintro _ s1 ⟨rfl, rfl⟩)
  go_ret
  exact ⟨rfl, rfl⟩
theorem ocontains_no {us : List Int} {A : Option Addr} {c : Nat} {w : World} (hv : IntsV w (.slice A us.length c) us) (hu : ¬ UsesIn us) (hn : us.length ≤ 1000000) :
    Calls Tryz.prog 26 #[.slice A us.length c, wrongF] w (fun e w' => e = .returned (.bool true) ∧ w' = w) := by
  have H := Lib.hid (oindex_no hv hu hn)
  clear hv hu
  go_enter Tryz.func26, Tryz.ntmps26
  go_wp2_with (go_at_call 48; (with_reducible refine H.out.mono ?_); rintro _ s1 ⟨k, hk, rfl, rfl⟩)
  go_ret
  exact ⟨by simp, rfl⟩

theorem isum_take_succ {us : List Int} {k : Nat} {u : Int} (h : us[k]? = some u) : isum (us.take (k + 1)) = isum (us.take k) + u := by
  rw [List.take_add_one, h, isum_append]
  show isum (us.take k) + (u + 0) = _
  omega
theorem isum_bd {us : List Int} (h : UsesIn us) : 0 ≤ isum us ∧ isum us ≤ 100 * us.length := by
  induction us with
  | nil => exact ⟨Int.le_refl _, Int.le_refl _⟩
  | cons u l ih =>
    have h1 := h u (List.mem_cons_self ..)
    have h2 := ih fun x hx => h x (List.mem_cons_of_mem _ hx)
    show 0 ≤ u + isum l ∧ u + isum l ≤ 100 * ((l.length + 1 : Nat) : Int)
    omega
theorem UsesIn.take {us : List Int} (h : UsesIn us) (k : Nat) : UsesIn (us.take k) := fun u hu => h u (List.mem_of_mem_take hu)
/-- What stands behind k rounds. -/
def outAt (n : Nat) (T : Int) (us : List Int) (k : Nat) : Rat := ((us.length : Int) : Rat) / ((1 : Int) : Rat) - unSub n T (us.take k)
theorem outAt_zero (n : Nat) (T : Int) (us : List Int) : outAt n T us 0 = ((us.length : Int) : Rat) / ((1 : Int) : Rat) := by
  unfold outAt unSub
  rw [List.take_zero]
  show _ - (0 : Rat) = _
  grind
theorem outAt_succ {n : Nat} {T : Int} {us : List Int} {k : Nat} {u : Int} (h : us[k]? = some u) : outAt n T us (k + 1) = outAt n T us k - powQ (one1 - (u : Rat) / (T : Rat)) n := by
  unfold outAt unSub
  rw [List.take_add_one, h, List.map_append, sumL_append]
  show _ - (_ + (powQ (one1 - (u : Rat) / (T : Rat)) n + 0)) = _
  grind
theorem share_small {u : Int} {T : Nat} (h1 : 1 ≤ u) (h2 : u ≤ (T : Int)) (hT : T < 1000000000) : (one1 - (u : Rat) / ((T : Int) : Rat)).num.natAbs < 1000000000 ∧ (one1 - (u : Rat) / ((T : Int) : Rat)).den < 1000000000 := by
  obtain ⟨k, rfl⟩ : ∃ k : Nat, u = (k : Int) := ⟨u.toNat, by omega⟩
  have hT0 : T ≠ 0 := by omega
  have hT' : (T : Rat) ≠ 0 := by exact_mod_cast hT0
  have e : one1 - ((k : Int) : Rat) / ((T : Int) : Rat) = frac false (T - k) T := by
    rw [frac_false]
    have h : ((T - k + k : Nat) : Rat) = (T : Rat) := by rw [Nat.sub_add_cancel (by omega)]
    rw [Rat.natCast_add] at h
    rw [Rat.intCast_natCast, Rat.intCast_natCast]
    show ((1 : Int) : Rat) / ((1 : Int) : Rat) - _ = _
    simp only [Rat.intCast_one, Rat.div_def]
    generalize ((T - k : Nat) : Rat) = A at *
    grind
  rw [e, frac_num hT0, frac_den hT0]
  have h1 := Nat.div_le_self (T - k) (Nat.gcd (T - k) T)
  have h2 := Nat.div_le_self T (Nat.gcd (T - k) T)
  omega
theorem outAt_fb {n T : Nat} {us : List Int} (hn : n ≤ 30) (hu : UsesIn us) (hm : ∀ u ∈ us, u ≤ (T : Int)) (hT : T < 1000000000) (hl : us.length ≤ 1000000) : ∀ k, k ≤ us.length → FB (outAt n (T : Int) us k) (3 + 32 * k)
  | 0, _ => by
    rw [outAt_zero]
    exact fb_i64 (by omega) (by omega)
  | k + 1, hk => by
    obtain ⟨u, hx⟩ : ∃ u, us[k]? = some u := ⟨_, List.getElem?_eq_getElem (by omega)⟩
    have hmem := List.mem_of_getElem? hx
    have hs := share_small (hu u hmem).1 (hm u hmem) hT
    rw [outAt_succ hx]
    exact (FB.sub (outAt_fb hn hu hm hT hl k (by omega)) (powQ_fb hs.1 hs.2 hn) (by omega)).mono (by omega)

set_option maxHeartbeats 8000000 in
theorem ounequal_ok {n : Nat} {us : List Int} {A : Option Addr} {c : Nat} {w : World} (hn : n ≤ 30) (hv : IntsV w (.slice A us.length c) us) (hu : UsesIn us) (hl1 : 1 ≤ us.length) (hl2 : us.length ≤ 12) (ht : Tab10 w) :
    Calls Tryz.prog 9 #[.int .i64 n, .slice A us.length c] w (GivesFE w (unQ n us)) := by
  obtain ⟨T, hTe, hTl⟩ := toNat_cast (fun u h => (hu u h).1)
  have hTb := isum_bd hu
  rw [hTe] at hTb
  have hT1 : T ≤ 1200 := by omega
  have hmem : ∀ u ∈ us, u ≤ (T : Int) := fun u h => by rw [← hTe]; exact isum_mem (fun u h => (hu u h).1) u h
  have HE2 := Lib.hid hTe
  have HOUT := Lib.hid (show unQ n us = outAt n (T : Int) us us.length from by unfold unQ outAt; rw [hTe, List.take_of_length_le (Nat.le_refl _)])
  have HFB := Lib.hid (fun k (hk : k ≤ us.length) => (outAt_fb hn hu hmem (by omega) (by omega) k hk).mono (M := 1000) (by omega))
  have HSM := Lib.hid (fun u (h : u ∈ us) => share_small (hu u h).1 (hmem u h) (by omega : T < 1000000000))
  have HU := Lib.hid hu
  have HM := Lib.hid hmem
  have HSB := Lib.hid (fun k => isum_bd (hu.take k))
  have HT := Lib.hid (fun (w' : World) (h : Ext w w') => ht.ext h)
  have HV := Lib.hid (fun (w' : World) (h : Ext w w') => hv.below h)
  have hT0 : 1 ≤ T := by omega
  have hlz1 : ¬ us.length < 1 := by omega
  have hlz2 : ¬ 12 < us.length := by omega
  have hlz3 : decide ((us.length : Int) < 1) = false := decide_eq_false (by omega)
  have hlz4 : decide ((12 : Int) < (us.length : Int)) = false := decide_eq_false (by omega)
  clear hTe hTb hmem hu hv ht hTl
  rw [HOUT.out]
  go_enter Tryz.func9, Tryz.ntmps9
  go_upto_region 1 with (fail)
  have hF0 := FBox.new w (.bool false) (.slice none 0 0) (.slice none 0 0) 28
  have x0 : Ext w (w.alloc (.cells #[.bool false, .slice none 0 0, .slice none 0 0] 28)) := ext_alloc (Below.refl _ _) _
  have hs0 : w.heap.size + 1 ≤ (w.alloc (.cells #[.bool false, .slice none 0 0, .slice none 0 0] 28)).heap.size := by simp
  generalize w.alloc (.cells #[.bool false, .slice none 0 0, .slice none 0 0] 28) = W0 at *
  have HF := Lib.hid (fun (w' : World) (h : Ext W0 w') => hF0.below h)
  have HE := Lib.hid x0
  have f0 : Ext W0 W0 := Below.refl _ _
  obtain ⟨r0, r1, r2, g0, g1, g2⟩ := hF0
  clear x0
  go_wp2_with (first
    | (go_at_call 14; (with_reducible refine (ocheck_ok (n := (n : Int)) (D := 1) (by omega) (by omega)).mono ?_); rintro e w1 ⟨rfl, rfl⟩)
    | (go_at_call 26; (with_reducible refine (ocontains_ok (HV.out _ HE.out) HU.out (by omega)).mono ?_); rintro e w1 ⟨rfl, rfl⟩))
  go_loop [8, 36] (fun tv iv => ∃ k : Nat, k ≤ us.length ∧ iv = .int .i64 k ∧ tv = .int .i64 (isum (us.take k))) (fun _ iv => us.length - (intOf iv).toNat)
  case atStart => exact ⟨0, Nat.zero_le _, rfl, rfl⟩
  case round =>
    obtain ⟨k, hk, rfl, rfl⟩ := hrel
    by_cases hkn : k < us.length
    · obtain ⟨b, o, rfl, hb, hc⟩ := (HV.out _ HE.out).pl hkn
      obtain ⟨x, hx⟩ : ∃ x, x = us.getD k 0 := ⟨_, rfl⟩
      have hxb := HU.out _ (getD_mem hkn)
      rw [← hx] at hc hxb
      have HST := Lib.hid (show isum (us.take (k + 1)) = isum (us.take k) + x from isum_take_succ (by rw [hx, List.getD_eq_getElem?_getD, List.getElem?_eq_getElem hkn]; rfl))
      obtain ⟨s, hs⟩ : ∃ s, s = isum (us.take k) := ⟨_, rfl⟩
      have hsb := HSB.out k
      have hsl : (us.take k).length ≤ us.length := List.length_take_le' _ _
      rw [← hs] at hsb HST ⊢
      have hw1 : IntKind.i64.wrap (s + x) = s + x := wrap_in (by omega)
      have hi1 : (0 : Int) ≤ (k : Int) := by omega
      have hi2 : (k : Int) < (us.length : Int) := by omega
      clear hx hs
      go_wp2
      go_round
      case rel => exact ⟨k + 1, by omega, by go_num, by rw [HST.out]⟩
      case measure => simp [intOf]; omega
    · obtain rfl : k = us.length := by omega
      rw [List.take_of_length_le (Nat.le_refl _), HE2.out]
      go_wp2_with fail
      refine (fof_n (n := (us.length : Int)) (d := 1) (by omega) (by omega)).mono ?_
      rintro e w6 ⟨b6, A6, k6, c6, A6', k6', c6', rfl, h6, y6, n6, n6'⟩
      rw [← outAt_zero n (T : Int) us] at h6
      clear f0
      have hlo := y6.size
      go_wp2
      have hG6 := FBox.new w6 (.bool b6) (.slice A6 k6 c6) (.slice A6' k6' c6') 28
      have Y6 : Ext w1 (w6.alloc (.cells #[.bool b6, .slice A6 k6 c6, .slice A6' k6' c6'] 28)) := ext_alloc y6 _
      have h6 := h6.below (ext_alloc (Below.refl _ _) (.cells #[.bool b6, .slice A6 k6 c6, .slice A6' k6' c6'] 28))
      have hsz6 : w6.heap.size < (w6.alloc (.cells #[.bool b6, .slice A6 k6 c6, .slice A6' k6' c6'] 28)).heap.size := by simp
      generalize w6.alloc (.cells #[.bool b6, .slice A6 k6 c6, .slice A6' k6' c6'] 28) = W6 at *
      generalize w6.heap.size = B6 at *
      go_loopw [49] (fun iv wr => ∃ k : Nat, k ≤ us.length ∧ iv = .int .i64 k ∧ FIs w1 wr B6 (outAt n (T : Int) us k)) (fun iv _ => us.length - (intOf iv).toNat)
      case atStart => exact ⟨0, Nat.zero_le _, rfl, b6, A6, k6, c6, A6', k6', c6', hG6, h6, Y6, n6, n6'⟩
      case round =>
        clear hG6 h6 Y6 n6 n6'
        obtain ⟨k, hk, rfl, cc, MA, mk, ml, MA', mk', ml', hM, vM, xM, nM, nM'⟩ := hrel
        have HM2 := Lib.hid (fun (w' : World) (h : Ext wr w') => hM.below h)
        have hMl := hM.lt
        obtain ⟨m0, m1, m2, gm0, gm1, gm2⟩ := hM
        have hX := xM
        by_cases hkl : k < us.length
        · have HMV := Lib.hid (fun (w' : World) (h : Ext wr w') => FracV.any (vM.below h) (HFB.out k (by omega)) (by omega))
          clear vM
          obtain ⟨b, o, rfl, hb, hc⟩ := (HV.out _ (HE.out.trans xM)).pl hkl
          obtain ⟨x, hx⟩ : ∃ x, x = us.getD k 0 := ⟨_, rfl⟩
          have hxb := HU.out _ (getD_mem hkl)
          have hsm := HSM.out _ (getD_mem hkl)
          rw [← hx] at hc hxb hsm
          have HSS := Lib.hid hsm
          have HST := Lib.hid (show outAt n (T : Int) us (k + 1) = outAt n (T : Int) us k - powQ (one1 - (x : Rat) / ((T : Int) : Rat)) n from outAt_succ (by rw [hx, List.getD_eq_getElem?_getD, List.getElem?_eq_getElem hkl]; rfl))
          have hi1 : (0 : Int) ≤ (k : Int) := by omega
          have hi2 : (k : Int) < (us.length : Int) := by omega
          have HS := Lib.hid (fun (w' : World) (h : Ext wr w') => (⟨(HM2.out _ h).1, (HM2.out _ h).2.1, (HM2.out _ h).2.2.1⟩ : w'.cell? ⟨B6, 0, none⟩ = some (.bool cc) ∧ w'.cell? ⟨B6, 1, none⟩ = some (.slice MA mk ml) ∧ w'.cell? ⟨B6, 2, none⟩ = some (.slice MA' mk' ml')))
          have HF1 := Lib.hid (show FB ((x : Rat) / ((T : Int) : Rat)) 3 from fb_i64 (by omega) (by omega))
          have HF2 := Lib.hid (powQ_fb HSS.out.1 HSS.out.2 hn)
          clear hx hsm
          go_upto_region 17 with (fail)
          refine wp_region_G (fun w' => Ext wr w') [7] (by kernel_rfl) ?_
          have gS : Ext wr wr.drew := (Below.refl _ _).drew
          refine wpAnyG_take 0 (v := ?_) rfl (by kernel_rfl) (by kernel_rfl) (by kernel_rfl) (by kernel_rfl) (by rfl) (by kernel_rfl) (fun _ _ _ h => h) (by rfl) (fun w' hw' => ?_) gS ?_
          rotate_left
          · (have hh := HS.out _ hw'; go_split_ands; go_simp; try with_reducible rfl)
          (try simp only [Act.put, List.setIfInBounds_toArray, List.set_cons_zero, List.set_cons_succ])
          refine wpAnyG_take 1 (v := ?_) rfl (by kernel_rfl) (by kernel_rfl) (by kernel_rfl) (by kernel_rfl) (by rfl) (by kernel_rfl) (fun _ _ _ h => h) (by rfl) (fun w' hw' => ?_) gS ?_
          rotate_left
          · (go_simp; try with_reducible rfl)
          (try simp only [Act.put, List.setIfInBounds_toArray, List.set_cons_zero, List.set_cons_succ])
          refine wpAnyG_take 2 (v := ?_) rfl (by kernel_rfl) (by kernel_rfl) (by kernel_rfl) (by kernel_rfl) (by rfl) (by kernel_rfl) (fun _ _ _ h => h) (by rfl) (fun w' hw' => ?_) gS ?_
          rotate_left
          · (go_simp; try with_reducible rfl)
          (try simp only [Act.put, List.setIfInBounds_toArray, List.set_cons_zero, List.set_cons_succ])
          refine wpAnyG_take 3 (v := ?_) rfl (by kernel_rfl) (by kernel_rfl) (by kernel_rfl) (by kernel_rfl) (by rfl) (by kernel_rfl) (fun _ _ _ h => h) (by rfl) (fun w' hw' => ?_) gS ?_
          rotate_left
          · (go_simp; try with_reducible rfl)
          (try simp only [Act.put, List.setIfInBounds_toArray, List.set_cons_zero, List.set_cons_succ])
          refine wpAnyG_one 4 (by kernel_rfl) rfl (by rfl) (fun K hK => ?_)
          go_simp
          go_at_call 16
          refine (fof_n (n := x) (d := (T : Int)) (by omega) (by omega)).mono ?_
          rintro _ s1 ⟨b1, A1, k1, c1, B1, l1, d1, rfl, h1, z1, _⟩
          have gS : Ext wr s1 := Ext.trans gS z1
          (try go_wp2_with fail)
          refine hK.out _ _ (fun _ => gS) ?_
          clear hK K
          (try simp only [Act.put, List.setIfInBounds_toArray, List.set_cons_zero, List.set_cons_succ])
          refine wpAnyG_one 5 (by kernel_rfl) rfl (by rfl) (fun K hK => ?_)
          go_simp
          go_at_call 17
          refine (omissed (n := n) (FracV.any h1 HF1.out (by omega)) HF1.out HSS.out.1 HSS.out.2 hn (HT.out _ (HE.out.trans (hX.trans gS)))).mono ?_
          rintro _ s2 ⟨b2, A2, k2, c2, B2, l2, d2, rfl, h2, z2, _⟩
          have gS : Ext wr s2 := Ext.trans gS z2
          (try go_wp2_with fail)
          refine hK.out _ _ (fun _ => gS) ?_
          clear hK K
          (try simp only [Act.put, List.setIfInBounds_toArray, List.set_cons_zero, List.set_cons_succ])
          refine wpAnyG_one 6 (by kernel_rfl) rfl (by rfl) (fun K hK => ?_)
          go_simp
          go_at_call 15
          refine (sub_f (HMV.out _ gS) (FracV.any h2 HF2.out (by omega)) (HFB.out k (by omega)) HF2.out (by omega)).mono ?_
          rintro _ s3 ⟨b3, A3, k3, c3, B3, l3, d3, rfl, h3, z3, n3, m3⟩
          have hg2 := gS.size
          have gS : Ext wr s3 := Ext.trans gS z3
          have f2 := gS
          obtain ⟨m0, m1, m2, gm0, gm1, gm2⟩ := HM2.out _ gS
          (try go_wp2_with fail)
          refine hK.out _ _ (fun _ => gS) ?_
          clear hK K
          (try simp only [Act.put, List.setIfInBounds_toArray, List.set_cons_zero, List.set_cons_succ])
          refine wpAnyG_one 7 (by kernel_rfl) rfl (by rfl) (fun K hK => ?_)
          go_simp
          refine hK.out _ _ (fun h => absurd h (by decide)) ?_
          clear hK K
          (try simp only [Act.put, List.setIfInBounds_toArray, List.set_cons_zero, List.set_cons_succ])
          refine wpAnyG_done (by kernel_rfl) ?_ _
          go_wp2
          go_roundw
          all_goals first
            | exact ⟨k + 1, by omega, by go_num, b3, A3, k3, c3, B3, l3, d3, (HM2.out _ f2).put _ _ _, by rw [HST.out]; exact FracV.put h3 n3 m3 (by omega) _ _ _, ext_put (hX.trans f2) (by omega) _ _ _, n3.mono (by have := hX.size; omega), m3.mono (by have := hX.size; omega)⟩
            | (simp [intOf]; omega)
        · obtain rfl : k = us.length := by omega
          obtain ⟨r0, r1, r2, g0, g1, g2⟩ := HF.out _ xM
          go_wp2
          obtain ⟨q0, q1, q2⟩ := set3 r0 r1 r2 (.bool cc) (.slice MA mk ml) (.slice MA' mk' ml')
          refine bodyPost_ret (v := .tuple #[.agg #[.bool cc, .slice MA mk ml, .slice MA' mk' ml'], .int .i64 0]) (by simp [results, Tryz.results9, go_sem, q0, q1, q2]) rfl ?_
          exact GivesFE.box (B := w.heap.size) (HE.out.trans xM) vM (nM.mono (by omega)) (nM'.mono (by omega)) (Nat.le_refl _)

theorem ruses_t {us : List Int} {A : Option Addr} {c : Nat} {w : World} (hv : IntsV w (.slice A us.length c) us) (hu : UsesIn us) (hl1 : 1 ≤ us.length) (hl2 : us.length ≤ 12) :
    Calls Tryz.prog 28 #[.slice A us.length c] w (fun e w' => e = .returned (.bool true) ∧ w' = w) := by
  have HV := Lib.hid hv
  have HU := Lib.hid hu
  clear hv hu
  go_enter Tryz.func28, Tryz.ntmps28
  go_wp2
  go_loop [3] (fun iv => ∃ k : Nat, k ≤ us.length ∧ iv = .int .i64 k) (fun iv => us.length - (intOf iv).toNat)
  case atStart => exact ⟨0, Nat.zero_le _, rfl⟩
  case round =>
    obtain ⟨k, hk, rfl⟩ := hrel
    by_cases hkn : k < us.length
    · obtain ⟨b, o, rfl, hb, hc⟩ := HV.out.pl hkn
      obtain ⟨x, hx⟩ : ∃ x, x = us.getD k 0 := ⟨_, rfl⟩
      obtain ⟨h1, h2⟩ := HU.out _ (getD_mem hkn)
      rw [← hx] at hc h1 h2
      have hi1 : (0 : Int) ≤ (k : Int) := by omega
      have hi2 : (k : Int) < (us.length : Int) := by omega
      clear hx
      go_wp2_with (go_at_call 27; (with_reducible refine (rin_t h1 h2).mono ?_); rintro _ s1 ⟨rfl, rfl⟩)
      go_round
      case rel => exact ⟨k + 1, by omega, by go_num⟩
      case measure => simp [intOf]; omega
    · go_wp2_with (go_at_call 27; (with_reducible refine (rin_t (by omega) (by omega)).mono ?_); rintro _ s1 ⟨rfl, rfl⟩)
      go_ret
      exact ⟨rfl, rfl⟩
theorem ruses_f {us : List Int} {A : Option Addr} {c : Nat} {w : World} (hv : IntsV w (.slice A us.length c) us) (hu : ¬ (UsesIn us ∧ 1 ≤ us.length ∧ us.length ≤ 12)) :
    Calls Tryz.prog 28 #[.slice A us.length c] w (fun e w' => e = .returned (.bool false) ∧ w' = w) := by
  have hcap : (us.length : Int) ≤ 9223372036854775807 := by obtain ⟨_, _, e, h1, h2, _⟩ := hv; injection e with e1 e2 e3; omega
  have HV := Lib.hid hv
  have HU := Lib.hid hu
  clear hv hu
  go_enter Tryz.func28, Tryz.ntmps28
  go_wp2
  go_loop [3] (fun iv => ∃ k : Nat, (k ≤ us.length ∧ UsesIn (us.take k)) ∧ iv = .int .i64 k) (fun iv => us.length - (intOf iv).toNat)
  case atStart => exact ⟨0, ⟨Nat.zero_le _, by intro u hu; simp at hu⟩, rfl⟩
  case round =>
    obtain ⟨k, ⟨hk, hu⟩, rfl⟩ := hrel
    by_cases hkn : k < us.length
    · obtain ⟨b, o, rfl, hb, hc⟩ := HV.out.pl hkn
      have HT := Lib.hid hu
      obtain ⟨x, hx⟩ : ∃ x, x = us.getD k 0 := ⟨_, rfl⟩
      have HX := Lib.hid hx
      rw [← hx] at hc
      have hi1 : (0 : Int) ≤ (k : Int) := by omega
      have hi2 : (k : Int) < (us.length : Int) := by omega
      clear hx hu
      by_cases h1 : 1 ≤ x ∧ x ≤ 100
      · obtain ⟨h1, h2⟩ := h1
        go_wp2_with (go_at_call 27; (with_reducible refine (rin_t h1 h2).mono ?_); rintro _ s1 ⟨rfl, rfl⟩)
        go_round
        case rel => exact ⟨k + 1, ⟨by omega, by
          intro u hu
          rw [List.take_add_one, List.mem_append] at hu
          rcases hu with hu | hu
          · exact HT.out u hu
          · rw [List.getElem?_eq_getElem hkn] at hu
            simp at hu
            subst hu
            rw [HX.out, List.getD_eq_getElem?_getD, List.getElem?_eq_getElem hkn] at h1 h2
            exact ⟨h1, h2⟩⟩, by go_num⟩
        case measure => simp [intOf]; omega
      · have h3 : x < 1 ∨ 100 < x := by omega
        clear h1
        have H3 := Lib.hid h3
        clear h3
        go_wp2_with (go_at_call 27; (with_reducible refine (rin_f H3.out).mono ?_); rintro _ s1 ⟨rfl, rfl⟩)
        go_ret
        exact ⟨rfl, rfl⟩
    · rw [List.take_of_length_le (by omega)] at hu
      have hl : us.length < 1 ∨ 12 < us.length := by
        have := HU.out
        by_cases h1 : 1 ≤ us.length ∧ us.length ≤ 12
        · exact absurd ⟨hu, h1⟩ this
        · omega
      have HL := Lib.hid (show (us.length : Int) < 1 ∨ 12 < (us.length : Int) from by omega)
      clear hu hl
      go_wp2_with (go_at_call 27; (with_reducible refine (rin_f HL.out).mono ?_); rintro _ s1 ⟨rfl, rfl⟩)
      go_ret
      exact ⟨rfl, rfl⟩

end Go.Proofs.YtglphodaoafdmaaGreatDoor
