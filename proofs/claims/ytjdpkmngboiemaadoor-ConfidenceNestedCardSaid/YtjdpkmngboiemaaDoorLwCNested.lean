/- The walk of ConfidenceNested. -/
import Derived.Test.YtjdpkmngboiemaaDoorConL
import Derived.Test.YtjdpkmngboiemaaDoorWf
set_option linter.unusedVariables false
set_option linter.unusedSimpArgs false
set_option maxRecDepth 100000
namespace Go.Proofs.YtjdpkmngboiemaaDoor
open Go.RowKit Num

theorem Lvl.half {q : Rat} (h : Lvl q) : Lvl (q * half12) := by
  have e : half12 = 1 / 2 := by decide +kernel
  obtain ⟨h1, h2⟩ := h
  rw [e]
  constructor <;> grind
/-- What Nested's loop needs to know of the three lists. -/
def HID3 (L1 L2 L3 : List Nat) (K : Nat) : Prop := (∀ x, x ∈ L1 → x ∈ L2) ∧ (∀ x, x ∈ L1 → (x ≤ K ↔ x ∈ L3)) ∧ L1.countP (fun x => decide (x ≤ K)) = L3.length ∧ L1.length ≤ 60 ∧ L3.length ≤ 60 ∧ L2.length ≤ 60
theorem nested_mem {n d m x : Nat} {q : Rat} (hq : Lvl q) (hx : x ∈ accL n d (q / 2) m) : x ∈ accL n d (q * half12 / 2) m := by
  refine accL_mono ?_ hx
  have e : half12 = 1 / 2 := by decide +kernel
  have h1 := hq.1
  rw [e]
  grind

set_option maxHeartbeats 8000000 in
theorem law_CNested {v0 v1 : Value} {z0 : Int × Int × Int} {z1 : FracIn} {k0 : Int} {w : World} (h0 : v0 = .agg #[.int .i64 z0.1, .int .i64 z0.2.1, .int .i64 z0.2.2] ∧ (Lit.int .i64 z0.1).wf = true ∧ (Lit.int .i64 z0.2.1).wf = true ∧ (Lit.int .i64 z0.2.2).wf = true) (h1 : KFrac w v1 z1) (hk0 : -9223372036854775808 ≤ k0 ∧ k0 ≤ 9223372036854775807) (ht : Tab10 w) :
    Calls Tryd.prog 5 #[v0, v1, .int .i64 k0] w (fun e w' => e = .returned (.bool true) ∧ Ext w w') := by
  obtain ⟨a, b, c⟩ := z0
  obtain ⟨rfl, wa, wb, wc⟩ := h0
  have hA := i64_of_wf wa
  have hB := i64_of_wf wb
  have hC := i64_of_wf wc
  clear wa wb wc
  obtain ⟨ng, nl, nv, dl, dv⟩ := z1
  obtain ⟨s, t, rfl, hs, hd⟩ := h1
  dsimp only at hs hd
  have HSL := Lib.hid (fun (w' : World) (h : Ext w w') => hs.below h)
  have HDL := Lib.hid (fun (w' : World) (h : Ext w w') => hd.below h)
  have HT := Lib.hid (fun (w' : World) (h : Ext w w') => ht.ext h)
  clear ht
  by_cases hf : nl ≤ 3 ∧ dl ≤ 3
  · have HX := Lib.hid (fun (w' : World) (h : Ext w w') => KFrac.any (z := ⟨ng, nl, nv, dl, dv⟩) (HSL.out _ h) (HDL.out _ h) (L := 3) hf.1 hf.2 (by omega))
    have HFW := Lib.hid hf
    clear hs hd
    dsimp only at HX
    obtain ⟨q, hq⟩ : ∃ q, q = frac ng nv dv := ⟨_, rfl⟩
    rw [← hq] at HX
    clear hq hf
    have HSET := Lib.hid (fun (n d m : Int) (w' : World) (h : Ext w w') => kset_any (n := n) (d := d) (m := m) (HX.out _ h) (by omega) (by omega) (HT.out _ h))
    have HFQ := Lib.hid ((HX.out _ (Below.refl _ _)).fb (by omega))
    have HFH := Lib.hid (FB.mul HFQ.out half12_fb (by omega))
    go_enter Tryd.func5, Tryd.ntmps5
    go_upto_region 1 with (fail)
    have hB0 := (FBox.new w (.int .i64 a) (.int .i64 b) (.int .i64 c) 42).below (ext_alloc (Below.refl _ _) (.cells #[.bool ng, s, t] 27))
    have hB1 := FBox.new (w.alloc (.cells #[.int .i64 a, .int .i64 b, .int .i64 c] 42)) (.bool ng) (s) (t) 27
    rw [show (w.alloc (.cells #[.int .i64 a, .int .i64 b, .int .i64 c] 42)).heap.size = w.heap.size + 1 from by simp] at hB1
    have x0 : Ext w ((w.alloc (.cells #[.int .i64 a, .int .i64 b, .int .i64 c] 42)).alloc (.cells #[.bool ng, s, t] 27)) := ext_alloc (ext_alloc (Below.refl _ _) _) _
    have hs0 : w.heap.size + 1 + 1 ≤ ((w.alloc (.cells #[.int .i64 a, .int .i64 b, .int .i64 c] 42)).alloc (.cells #[.bool ng, s, t] 27)).heap.size := by simp
    generalize ((w.alloc (.cells #[.int .i64 a, .int .i64 b, .int .i64 c] 42)).alloc (.cells #[.bool ng, s, t] 27)) = W0 at *
    have HB0 := Lib.hid (fun (w' : World) (h : Ext W0 w') => hB0.below h)
    obtain ⟨c00, c01, c02, d00, d01, d02⟩ := hB0
    have HB1 := Lib.hid (fun (w' : World) (h : Ext W0 w') => hB1.below h)
    obtain ⟨c10, c11, c12, d10, d11, d12⟩ := hB1
    have HE := Lib.hid x0
    clear x0
    have f0 : Ext W0 W0 := Below.refl _ _
    go_wp2_with fail
    refine (kawake (HT.out _ HE.out)).mono ?_
    rintro e U1 ⟨rfl, y1⟩
    obtain ⟨c10, c11, c12, _, _, _⟩ := HB1.out _ y1
    go_wp2_with fail
    refine (lfew_t (HSL.out _ (HE.out.trans y1)) (HDL.out _ (HE.out.trans y1)) HFW.out).mono ?_
    rintro e U2 ⟨rfl, y2⟩
    have y2 := Ext.trans y1 y2
    obtain ⟨c00, c01, c02, _, _, _⟩ := HB0.out _ y2
    go_wp2_with fail
    refine (lsample hA hB hC).mono ?_
    rintro e U3 ⟨N, E, M, hS, rfl, x3⟩
    have y3 := Ext.trans y2 x3
    obtain ⟨c00, c01, c02, d00, d01, d02⟩ := HB0.out _ y3
    go_upto_region 4 with (fail)
    have P0 := FBox.put (HB0.out _ y3) (.int .i64 N) (.int .i64 E) (.int .i64 M)
    have P1 := FBox.away (b' := w.heap.size) (HB1.out _ y3) (by omega) (.int .i64 N) (.int .i64 E) (.int .i64 M)
    have XV := ext_put (b := w.heap.size) (HE.out.trans y3) (by omega) (.int .i64 N) (.int .i64 E) (.int .i64 M)
    generalize ((U3.setCell ⟨w.heap.size, 0, none⟩ (.int .i64 N)).setCell ⟨w.heap.size, 1, none⟩ (.int .i64 E)).setCell ⟨w.heap.size, 2, none⟩ (.int .i64 M) = V at *
    clear c00 c01 c02 d00 d01 d02
    have HP0 := Lib.hid (fun (w' : World) (h : Ext V w') => P0.below h)
    clear P0
    have HP1 := Lib.hid (fun (w' : World) (h : Ext V w') => P1.below h)
    clear P1
    have HXV := Lib.hid XV
    have f0 : Ext V V := Below.refl _ _
    obtain ⟨c00, c01, c02, _, _, _⟩ := HP0.out _ f0
    have hM60 : 1 ≤ M ∧ M ≤ 60 := hS.2.2
    go_wp2_with fail
    refine (mod_i (b := (M : Int)) (by omega) (by omega) hk0).mono ?_
    rintro e w9 ⟨j, hj, rfl, hw9⟩
    obtain rfl : V = w9 := hw9.symm
    obtain ⟨K, hK⟩ : ∃ K : Nat, K = j + 1 := ⟨_, rfl⟩
    have hwK : IntKind.i64.wrap (1 + (j : Int)) = (K : Int) := by rw [wrap_in (by omega)]; omega
    have hKM : 1 ≤ K ∧ K ≤ M := by omega
    clear hj hK
    obtain ⟨c10, c11, c12, _, _, _⟩ := HP1.out _ f0
    have HDK := Lib.hid (show DIn (N : Int) (E : Int) (K : Int) from din_of hS.1 hS.2.1 (by omega))
    by_cases hq : Lvl q
    · have HK1 := Lib.hid (fun (w' : World) (h : Ext V w') => HSET.out N E M w' (XV.trans h))
      have HK2 := Lib.hid (fun (w' : World) (h : Ext V w') => HSET.out N E K w' (XV.trans h))
      rw [accE_ok hS.din hq, setL_ok hS.din hq] at HK1
      rw [accE_ok HDK.out hq, setL_ok HDK.out hq] at HK2
      have HE3 := Lib.hid (accE_ok hS.din hq.half)
      have HL3 := Lib.hid (setL_ok hS.din hq.half)
      have HMEM := Lib.hid (fun x (h : x ∈ accL N E (q / 2) M) => nested_mem hq h)
      have HCAP := Lib.hid (fun x (h : x ∈ accL N E (q / 2) M) => accL_cap (k := K) hKM.2 h)
      have HCNT := Lib.hid (accL_count (n := N) (d := E) (h := q / 2) (k := K) M hKM.2)
      have HLEN := Lib.hid (show (accL N E (q / 2) M).length ≤ 60 ∧ (accL N E (q / 2) K).length ≤ 60 ∧ (accL N E (q * half12 / 2) M).length ≤ 60 from by
        have h1 := accL_length (n := N) (d := E) (h := q / 2) M
        have h2 := accL_length (n := N) (d := E) (h := q / 2) K
        have h3 := accL_length (n := N) (d := E) (h := q * half12 / 2) M
        omega)
      go_wp2_with fail
      refine (HK1.out _ f0).mono ?_
      rintro e U4 ⟨A4, k4, rfl, hI4, y4, _⟩
      have HI4 := Lib.hid (fun (w' : World) (h : Ext U4 w') => hI4.below h)
      clear hI4
      have HS := Lib.hid (fun (w' : World) (h : Ext U4 w') => (⟨⟨(HP0.out _ (y4.trans h)).1, (HP0.out _ (y4.trans h)).2.1, (HP0.out _ (y4.trans h)).2.2.1⟩, (HP1.out _ (y4.trans h)).1, (HP1.out _ (y4.trans h)).2.1, (HP1.out _ (y4.trans h)).2.2.1⟩ : (w'.cell? ⟨w.heap.size, 0, none⟩ = some (.int .i64 N) ∧ w'.cell? ⟨w.heap.size, 1, none⟩ = some (.int .i64 E) ∧ w'.cell? ⟨w.heap.size, 2, none⟩ = some (.int .i64 M)) ∧ w'.cell? ⟨w.heap.size + 1, 0, none⟩ = some (.bool ng) ∧ w'.cell? ⟨w.heap.size + 1, 1, none⟩ = some s ∧ w'.cell? ⟨w.heap.size + 1, 2, none⟩ = some t))
      go_upto_region 6 with (fail)
      refine wp_region_G (fun w' => Ext U4 w') [14] (by kernel_rfl) ?_
      have gS : Ext U4 U4.drew := (Below.refl _ _).drew
      refine wpAnyG_take 0 (v := ?_) rfl (by kernel_rfl) (by kernel_rfl) (by kernel_rfl) (by kernel_rfl) (by rfl) (by kernel_rfl) (fun _ _ _ h => h) (by rfl) (fun w' hw' => ?_) gS ?_
      rotate_left
      focus (go_simp; (try with_reducible rfl); done)
      (try simp only [Act.put, List.getElem_toArray, List.getElem_cons_succ, List.getElem_cons_zero, List.setIfInBounds_toArray, List.set_cons_zero, List.set_cons_succ])
      refine wpAnyG_take 1 (v := ?_) rfl (by kernel_rfl) (by kernel_rfl) (by kernel_rfl) (by kernel_rfl) (by rfl) (by kernel_rfl) (fun _ _ _ h => h) (by rfl) (fun w' hw' => ?_) gS ?_
      rotate_left
      focus (have hh := HS.out _ hw'; go_split_ands; go_simp; (try with_reducible rfl); done)
      (try simp only [Act.put, List.getElem_toArray, List.getElem_cons_succ, List.getElem_cons_zero, List.setIfInBounds_toArray, List.set_cons_zero, List.set_cons_succ])
      refine wpAnyG_take 2 (v := ?_) rfl (by kernel_rfl) (by kernel_rfl) (by kernel_rfl) (by kernel_rfl) (by rfl) (by kernel_rfl) (fun _ _ _ h => h) (by rfl) (fun w' hw' => ?_) gS ?_
      rotate_left
      focus (go_simp; (try with_reducible rfl); done)
      (try simp only [Act.put, List.getElem_toArray, List.getElem_cons_succ, List.getElem_cons_zero, List.setIfInBounds_toArray, List.set_cons_zero, List.set_cons_succ])
      refine wpAnyG_take 3 (v := ?_) rfl (by kernel_rfl) (by kernel_rfl) (by kernel_rfl) (by kernel_rfl) (by rfl) (by kernel_rfl) (fun _ _ _ h => h) (by rfl) (fun w' hw' => ?_) gS ?_
      rotate_left
      focus (have hh := HS.out _ hw'; go_split_ands; go_simp; (try with_reducible rfl); done)
      (try simp only [Act.put, List.getElem_toArray, List.getElem_cons_succ, List.getElem_cons_zero, List.setIfInBounds_toArray, List.set_cons_zero, List.set_cons_succ])
      refine wpAnyG_take 4 (v := ?_) rfl (by kernel_rfl) (by kernel_rfl) (by kernel_rfl) (by kernel_rfl) (by rfl) (by kernel_rfl) (fun _ _ _ h => h) (by rfl) (fun w' hw' => ?_) gS ?_
      rotate_left
      focus (go_simp; (try with_reducible rfl); done)
      (try simp only [Act.put, List.getElem_toArray, List.getElem_cons_succ, List.getElem_cons_zero, List.setIfInBounds_toArray, List.set_cons_zero, List.set_cons_succ])
      refine wpAnyG_take 5 (v := ?_) rfl (by kernel_rfl) (by kernel_rfl) (by kernel_rfl) (by kernel_rfl) (by rfl) (by kernel_rfl) (fun _ _ _ h => h) (by rfl) (fun w' hw' => ?_) gS ?_
      rotate_left
      focus (have hh := HS.out _ hw'; go_split_ands; go_simp; (try with_reducible rfl); done)
      (try simp only [Act.put, List.getElem_toArray, List.getElem_cons_succ, List.getElem_cons_zero, List.setIfInBounds_toArray, List.set_cons_zero, List.set_cons_succ])
      refine wpAnyG_take 6 (v := ?_) rfl (by kernel_rfl) (by kernel_rfl) (by kernel_rfl) (by kernel_rfl) (by rfl) (by kernel_rfl) (fun _ _ _ h => h) (by rfl) (fun w' hw' => ?_) gS ?_
      rotate_left
      focus (have hh := HS.out _ hw'; go_split_ands; go_simp; (try with_reducible rfl); done)
      (try simp only [Act.put, List.getElem_toArray, List.getElem_cons_succ, List.getElem_cons_zero, List.setIfInBounds_toArray, List.set_cons_zero, List.set_cons_succ])
      refine wpAnyG_one 7 (by kernel_rfl) rfl (by rfl) (fun K hK => ?_)
      go_simp
      go_at_call 9
      refine (fof_n (n := 1) (d := 2) (by omega) (by omega)).mono ?_
      rintro _ s1 ⟨b4, A4', k4', c4', B4', l4, d4, rfl, h4, z4, _⟩
      have h4 : FracV s1 b4 (.slice A4' k4' c4') (.slice B4' l4 d4) half12 := h4
      have gS : Ext U4 s1 := Ext.trans gS z4
      (try go_wp2_with fail)
      refine hK.out _ _ (fun _ => gS) ?_
      clear hK K
      (try simp only [Act.put, List.getElem_toArray, List.getElem_cons_succ, List.getElem_cons_zero, List.setIfInBounds_toArray, List.set_cons_zero, List.set_cons_succ])
      refine wpAnyG_one 8 (by kernel_rfl) rfl (by rfl) (fun K hK => ?_)
      go_simp
      go_at_call 10
      refine (mul_f (HX.out _ (HXV.out.trans (y4.trans gS))) (FracV.any h4 half12_fb (by omega)) (by omega)).mono ?_
      rintro _ s2 ⟨b6, A6', k6', c6', B6', l6, d6, rfl, h6, z6, n6, m6⟩
      have gS : Ext U4 s2 := Ext.trans gS z6
      (try go_wp2_with fail)
      refine hK.out _ _ (fun _ => gS) ?_
      clear hK K
      (try simp only [Act.put, List.getElem_toArray, List.getElem_cons_succ, List.getElem_cons_zero, List.setIfInBounds_toArray, List.set_cons_zero, List.set_cons_succ])
      refine wpAnyG_one 9 (by kernel_rfl) rfl (by rfl) (fun K hK => ?_)
      go_simp
      go_at_call 14
      refine (kset_any (n := (N : Int)) (d := (E : Int)) (m := (M : Int)) (FracV.any h6 HFH.out (by omega)) (by omega) (by omega) (HT.out _ (HXV.out.trans (y4.trans gS)))).mono ?_
      rintro _ U5 ⟨A5, k5, rfl, hI5, y5, _⟩
      have gS : Ext U4 U5 := Ext.trans gS y5
      have x5 := gS
      (try go_wp2_with fail)
      refine hK.out _ _ (fun _ => gS) ?_
      clear hK K
      (try simp only [Act.put, List.getElem_toArray, List.getElem_cons_succ, List.getElem_cons_zero, List.setIfInBounds_toArray, List.set_cons_zero, List.set_cons_succ])
      refine wpAnyG_take 10 (v := ?_) rfl (by kernel_rfl) (by kernel_rfl) (by kernel_rfl) (by kernel_rfl) (by rfl) (by kernel_rfl) (fun _ _ _ h => h) (by rfl) (fun w' hw' => ?_) gS ?_
      rotate_left
      focus (go_simp; (try with_reducible rfl); done)
      (try simp only [Act.put, List.getElem_toArray, List.getElem_cons_succ, List.getElem_cons_zero, List.setIfInBounds_toArray, List.set_cons_zero, List.set_cons_succ])
      refine wpAnyG_take 11 (v := ?_) rfl (by kernel_rfl) (by kernel_rfl) (by kernel_rfl) (by kernel_rfl) (by rfl) (by kernel_rfl) (fun _ _ _ h => h) (by rfl) (fun w' hw' => ?_) gS ?_
      rotate_left
      focus (go_simp; (try with_reducible rfl); done)
      (try simp only [Act.put, List.getElem_toArray, List.getElem_cons_succ, List.getElem_cons_zero, List.setIfInBounds_toArray, List.set_cons_zero, List.set_cons_succ])
      refine wpAnyG_take 12 (v := ?_) rfl (by kernel_rfl) (by kernel_rfl) (by kernel_rfl) (by kernel_rfl) (by rfl) (by kernel_rfl) (fun _ _ _ h => h) (by rfl) (fun w' hw' => ?_) gS ?_
      rotate_left
      focus (go_simp; (try with_reducible rfl); done)
      (try simp only [Act.put, List.getElem_toArray, List.getElem_cons_succ, List.getElem_cons_zero, List.setIfInBounds_toArray, List.set_cons_zero, List.set_cons_succ])
      refine wpAnyG_take 13 (v := ?_) rfl (by kernel_rfl) (by kernel_rfl) (by kernel_rfl) (by kernel_rfl) (by rfl) (by kernel_rfl) (fun _ _ _ h => h) (by rfl) (fun w' hw' => ?_) gS ?_
      rotate_left
      focus (go_simp; (try with_reducible rfl); done)
      (try simp only [Act.put, List.getElem_toArray, List.getElem_cons_succ, List.getElem_cons_zero, List.setIfInBounds_toArray, List.set_cons_zero, List.set_cons_succ])
      refine wpAnyG_one 14 (by kernel_rfl) rfl (by rfl) (fun K hK => ?_)
      go_simp
      refine hK.out _ _ (fun h => absurd h (by decide)) ?_
      clear hK K
      (try simp only [Act.put, List.getElem_toArray, List.getElem_cons_succ, List.getElem_cons_zero, List.setIfInBounds_toArray, List.set_cons_zero, List.set_cons_succ])
      refine wpAnyG_done (by kernel_rfl) ?_ _
      rw [HL3.out] at hI5 ⊢
      rw [HE3.out]
      have HI5 := Lib.hid (fun (w' : World) (h : Ext U5 w') => hI5.below h)
      clear hI5
      have y6 := Ext.trans y4 x5
      obtain ⟨c00, c01, c02, _, _, _⟩ := HP0.out _ y6
      obtain ⟨c10, c11, c12, _, _, _⟩ := HP1.out _ y6
      go_wp2_with fail
      refine (HK2.out _ y6).mono ?_
      rintro e U6 ⟨A6, k6, rfl, hI6, x6, _⟩
      have HI6 := Lib.hid (fun (w' : World) (h : Ext U6 w') => hI6.below h)
      have HI56 := Lib.hid (fun (w' : World) (h : Ext U6 w') => HI5.out _ (x6.trans h))
      have HI46 := Lib.hid (fun (w' : World) (h : Ext U6 w') => HI4.out _ (x5.trans (x6.trans h)))
      have y7 := Ext.trans y6 x6
      clear hI6
      have HD2 := Lib.hid (show HID3 (accL N E (q / 2) M) (accL N E (q * half12 / 2) M) (accL N E (q / 2) K) K from ⟨fun x h => HMEM.out x h, fun x h => HCAP.out x h, HCNT.out, HLEN.out.1, HLEN.out.2.1, HLEN.out.2.2⟩)
      generalize accL N E (q / 2) M = L1 at HI46 HD2 ⊢
      generalize accL N E (q * half12 / 2) M = L2 at HI56 HD2 ⊢
      generalize accL N E (q / 2) K = L3 at HI6 HD2 ⊢
      have HL1 := Lib.hid (natsI_length L1)
      have hl60 : L1.length ≤ 60 := HD2.out.2.2.2.1
      go_wp2
      go_loopw [13, 14] (fun nv iv wr => ∃ i : Nat, i ≤ L1.length ∧ iv = .int .i64 i ∧ nv = .int .i64 ((L1.take i).countP (fun x => decide (x ≤ K)) : Nat) ∧ Ext U6 wr) (fun _ iv _ => L1.length - (intOf iv).toNat)
      case atStart => exact ⟨0, Nat.zero_le _, rfl, rfl, Below.refl _ _⟩
      case round =>
        clear c00 c01 c02 c10 c11 c12
        obtain ⟨i, hi, rfl, rfl, hx⟩ := hrel
        by_cases hil : i < L1.length
        · obtain ⟨b1, o1, rfl, hb1', hc1⟩ := (HI46.out _ hx).plC (k := i) (by rw [HL1.out]; exact hil)
          obtain ⟨x, hxx⟩ : ∃ x, x = L1[i] := ⟨_, rfl⟩
          have hgx : (natsI L1).getD i 0 = (x : Int) := by rw [getD_natsI hil, hxx, List.getD_eq_getElem?_getD, List.getElem?_eq_getElem hil]; rfl
          rw [hgx] at hc1
          have hxm : x ∈ L1 := by rw [hxx]; exact List.getElem_mem hil
          have HM2 := Lib.hid (show decide ((x : Int) ∈ natsI L2) = true from decide_eq_true (mem_natsI.2 (HD2.out.1 x hxm)))
          have HM3 := Lib.hid (show decide ((x : Int) ∈ natsI L3) = decide (x ≤ K) from by
            have h := HD2.out.2.1 x hxm
            by_cases h' : x ≤ K
            · rw [decide_eq_true h', decide_eq_true (mem_natsI.2 (h.1 h'))]
            · rw [decide_eq_false h', decide_eq_false fun h'' => h' (h.2 (mem_natsI.1 h''))])
          have HCT := Lib.hid (show (L1.take (i + 1)).countP (fun x => decide (x ≤ K)) = (L1.take i).countP (fun x => decide (x ≤ K)) + (if x ≤ K then 1 else 0) from by
            rw [List.take_add_one, List.getElem?_eq_getElem hil, List.countP_append, hxx]
            show _ + List.countP _ [L1[i]] = _
            rw [List.countP_singleton]
            simp)
          obtain ⟨ct, hct⟩ : ∃ ct, ct = (L1.take i).countP (fun x => decide (x ≤ K)) := ⟨_, rfl⟩
          have hctl : ct ≤ 60 := by rw [hct]; exact Nat.le_trans List.countP_le_length (by rw [List.length_take]; omega)
          rw [← hct] at HCT ⊢
          have HS2 := Lib.hid (fun (w' : World) (h : Ext wr w') => ((h.cell (p := ⟨_, _, none⟩) hb1').trans hc1 : w'.cell? ⟨_, _, none⟩ = some (.int .i64 x)))
          have HS := HS2
          have hi1 : (0 : Int) ≤ (i : Int) := by omega
          have hi2 : (i : Int) < ((natsI L1).length : Int) := by rw [HL1.out]; omega
          have hw1 : IntKind.i64.wrap ((i : Int) + 1) = (i : Int) + 1 := wrap_in (by omega)
          have hw2 : IntKind.i64.wrap ((ct : Int) + 1) = (ct : Int) + 1 := wrap_in (by omega)
          have HL3' := Lib.hid HD2.out.2.2.2.2
          clear hgx hxm hxx hct hc1
          by_cases hxk : x ≤ K
          · have e1 : decide ((x : Int) ≤ (K : Int)) = true := decide_eq_true (by omega)
            rw [decide_eq_true hxk] at HM3
            rw [if_pos hxk] at HCT
            have e9 : decide (x ≤ K) = true := decide_eq_true hxk
            go_upto_region 16 with (fail)
            refine wp_region_G (fun w' => Ext wr w') [21] (by kernel_rfl) ?_
            have gS : Ext wr wr.drew := (Below.refl _ _).drew
            refine wpAnyG_take 0 (v := ?_) rfl (by kernel_rfl) (by kernel_rfl) (by kernel_rfl) (by kernel_rfl) (by rfl) (by kernel_rfl) (fun _ _ _ h => h) (by rfl) (fun w' hw' => ?_) gS ?_
            rotate_left
            focus (go_simp; (try with_reducible rfl); done)
            (try simp only [Act.put, List.getElem_toArray, List.getElem_cons_succ, List.getElem_cons_zero, List.setIfInBounds_toArray, List.set_cons_zero, List.set_cons_succ])
            refine wpAnyG_take 1 (v := ?_) rfl (by kernel_rfl) (by kernel_rfl) (by kernel_rfl) (by kernel_rfl) (by rfl) (by kernel_rfl) (fun _ _ _ h => h) (by rfl) (fun w' hw' => ?_) gS ?_
            rotate_left
            focus (go_simp; (try with_reducible rfl); done)
            (try simp only [Act.put, List.getElem_toArray, List.getElem_cons_succ, List.getElem_cons_zero, List.setIfInBounds_toArray, List.set_cons_zero, List.set_cons_succ])
            refine wpAnyG_take 2 (v := ?_) rfl (by kernel_rfl) (by kernel_rfl) (by kernel_rfl) (by kernel_rfl) (by rfl) (by kernel_rfl) (fun _ _ _ h => h) (by rfl) (fun w' hw' => ?_) gS ?_
            rotate_left
            focus (go_simp; (try with_reducible rfl); done)
            (try simp only [Act.put, List.getElem_toArray, List.getElem_cons_succ, List.getElem_cons_zero, List.setIfInBounds_toArray, List.set_cons_zero, List.set_cons_succ])
            refine wpAnyG_take 3 (v := ?_) rfl (by kernel_rfl) (by kernel_rfl) (by kernel_rfl) (by kernel_rfl) (by rfl) (by kernel_rfl) (fun _ _ _ h => h) (by rfl) (fun w' hw' => ?_) gS ?_
            rotate_left
            focus (go_simp; (try with_reducible rfl); done)
            (try simp only [Act.put, List.getElem_toArray, List.getElem_cons_succ, List.getElem_cons_zero, List.setIfInBounds_toArray, List.set_cons_zero, List.set_cons_succ])
            refine wpAnyG_take 4 (v := ?_) rfl (by kernel_rfl) (by kernel_rfl) (by kernel_rfl) (by kernel_rfl) (by rfl) (by kernel_rfl) (fun _ _ _ h => h) (by rfl) (fun w' hw' => ?_) gS ?_
            rotate_left
            focus (have hh := HS.out _ hw'; go_split_ands; go_simp; (try with_reducible rfl); done)
            (try simp only [Act.put, List.getElem_toArray, List.getElem_cons_succ, List.getElem_cons_zero, List.setIfInBounds_toArray, List.set_cons_zero, List.set_cons_succ])
            refine wpAnyG_one 5 (by kernel_rfl) rfl (by rfl) (fun K hK => ?_)
            go_simp
            go_at_call 15
            refine (lhas (x := (x : Int)) (HI56.out _ (hx.trans gS)) (by rw [natsI_length]; have := HL3'.out; omega)).mono ?_
            rw [HM2.out]
            rintro _ s1 ⟨rfl, rfl⟩
            (try go_wp2_with fail)
            refine hK.out _ _ (fun _ => gS) ?_
            clear hK K
            (try simp only [Act.put, List.getElem_toArray, List.getElem_cons_succ, List.getElem_cons_zero, List.setIfInBounds_toArray, List.set_cons_zero, List.set_cons_succ])
            refine wpAnyG_take 6 (v := ?_) rfl (by kernel_rfl) (by kernel_rfl) (by kernel_rfl) (by kernel_rfl) (by rfl) (by kernel_rfl) (fun _ _ _ h => h) (by rfl) (fun w' hw' => ?_) gS ?_
            rotate_left
            focus (go_simp; (try with_reducible rfl); done)
            (try simp only [Act.put, List.getElem_toArray, List.getElem_cons_succ, List.getElem_cons_zero, List.setIfInBounds_toArray, List.set_cons_zero, List.set_cons_succ])
            refine wpAnyG_take 7 (v := ?_) rfl (by kernel_rfl) (by kernel_rfl) (by kernel_rfl) (by kernel_rfl) (by rfl) (by kernel_rfl) (fun _ _ _ h => h) (by rfl) (fun w' hw' => ?_) gS ?_
            rotate_left
            focus (go_simp; (try with_reducible rfl); done)
            (try simp only [Act.put, List.getElem_toArray, List.getElem_cons_succ, List.getElem_cons_zero, List.setIfInBounds_toArray, List.set_cons_zero, List.set_cons_succ])
            refine wpAnyG_take 8 (v := ?_) rfl (by kernel_rfl) (by kernel_rfl) (by kernel_rfl) (by kernel_rfl) (by rfl) (by kernel_rfl) (fun _ _ _ h => h) (by rfl) (fun w' hw' => ?_) gS ?_
            rotate_left
            focus (go_simp; (try with_reducible rfl); done)
            (try simp only [Act.put, List.getElem_toArray, List.getElem_cons_succ, List.getElem_cons_zero, List.setIfInBounds_toArray, List.set_cons_zero, List.set_cons_succ])
            refine wpAnyG_take 9 (v := ?_) rfl (by kernel_rfl) (by kernel_rfl) (by kernel_rfl) (by kernel_rfl) (by rfl) (by kernel_rfl) (fun _ _ _ h => h) (by rfl) (fun w' hw' => ?_) gS ?_
            rotate_left
            focus (go_simp; (try with_reducible rfl); done)
            (try simp only [Act.put, List.getElem_toArray, List.getElem_cons_succ, List.getElem_cons_zero, List.setIfInBounds_toArray, List.set_cons_zero, List.set_cons_succ])
            refine wpAnyG_take 10 (v := ?_) rfl (by kernel_rfl) (by kernel_rfl) (by kernel_rfl) (by kernel_rfl) (by rfl) (by kernel_rfl) (fun _ _ _ h => h) (by rfl) (fun w' hw' => ?_) gS ?_
            rotate_left
            focus (go_simp; (try with_reducible rfl); done)
            (try simp only [Act.put, List.getElem_toArray, List.getElem_cons_succ, List.getElem_cons_zero, List.setIfInBounds_toArray, List.set_cons_zero, List.set_cons_succ])
            refine wpAnyG_take 11 (v := ?_) rfl (by kernel_rfl) (by kernel_rfl) (by kernel_rfl) (by kernel_rfl) (by rfl) (by kernel_rfl) (fun _ _ _ h => h) (by rfl) (fun w' hw' => ?_) gS ?_
            rotate_left
            focus (have hh := HS.out _ hw'; go_split_ands; go_simp; (try with_reducible rfl); done)
            (try simp only [Act.put, List.getElem_toArray, List.getElem_cons_succ, List.getElem_cons_zero, List.setIfInBounds_toArray, List.set_cons_zero, List.set_cons_succ])
            refine wpAnyG_take 12 (v := ?_) rfl (by kernel_rfl) (by kernel_rfl) (by kernel_rfl) (by kernel_rfl) (by rfl) (by kernel_rfl) (fun _ _ _ h => h) (by rfl) (fun w' hw' => ?_) gS ?_
            rotate_left
            focus (go_simp; (try with_reducible rfl); done)
            (try simp only [Act.put, List.getElem_toArray, List.getElem_cons_succ, List.getElem_cons_zero, List.setIfInBounds_toArray, List.set_cons_zero, List.set_cons_succ])
            refine wpAnyG_take 13 (v := ?_) rfl (by kernel_rfl) (by kernel_rfl) (by kernel_rfl) (by kernel_rfl) (by rfl) (by kernel_rfl) (fun _ _ _ h => h) (by rfl) (fun w' hw' => ?_) gS ?_
            rotate_left
            focus (go_simp; (try with_reducible rfl); done)
            (try simp only [Act.put, List.getElem_toArray, List.getElem_cons_succ, List.getElem_cons_zero, List.setIfInBounds_toArray, List.set_cons_zero, List.set_cons_succ])
            refine wpAnyG_take 14 (v := ?_) rfl (by kernel_rfl) (by kernel_rfl) (by kernel_rfl) (by kernel_rfl) (by rfl) (by kernel_rfl) (fun _ _ _ h => h) (by rfl) (fun w' hw' => ?_) gS ?_
            rotate_left
            focus (go_simp; (try with_reducible rfl); done)
            (try simp only [Act.put, List.getElem_toArray, List.getElem_cons_succ, List.getElem_cons_zero, List.setIfInBounds_toArray, List.set_cons_zero, List.set_cons_succ])
            refine wpAnyG_take 15 (v := ?_) rfl (by kernel_rfl) (by kernel_rfl) (by kernel_rfl) (by kernel_rfl) (by rfl) (by kernel_rfl) (fun _ _ _ h => h) (by rfl) (fun w' hw' => ?_) gS ?_
            rotate_left
            focus (go_simp; (try with_reducible rfl); done)
            (try simp only [Act.put, List.getElem_toArray, List.getElem_cons_succ, List.getElem_cons_zero, List.setIfInBounds_toArray, List.set_cons_zero, List.set_cons_succ])
            refine wpAnyG_take 16 (v := ?_) rfl (by kernel_rfl) (by kernel_rfl) (by kernel_rfl) (by kernel_rfl) (by rfl) (by kernel_rfl) (fun _ _ _ h => h) (by rfl) (fun w' hw' => ?_) gS ?_
            rotate_left
            focus (go_simp; (try with_reducible rfl); done)
            (try simp only [Act.put, List.getElem_toArray, List.getElem_cons_succ, List.getElem_cons_zero, List.setIfInBounds_toArray, List.set_cons_zero, List.set_cons_succ])
            refine wpAnyG_take 17 (v := ?_) rfl (by kernel_rfl) (by kernel_rfl) (by kernel_rfl) (by kernel_rfl) (by rfl) (by kernel_rfl) (fun _ _ _ h => h) (by rfl) (fun w' hw' => ?_) gS ?_
            rotate_left
            focus (go_simp; (try with_reducible rfl); done)
            (try simp only [Act.put, List.getElem_toArray, List.getElem_cons_succ, List.getElem_cons_zero, List.setIfInBounds_toArray, List.set_cons_zero, List.set_cons_succ])
            refine wpAnyG_take 18 (v := ?_) rfl (by kernel_rfl) (by kernel_rfl) (by kernel_rfl) (by kernel_rfl) (by rfl) (by kernel_rfl) (fun _ _ _ h => h) (by rfl) (fun w' hw' => ?_) gS ?_
            rotate_left
            focus (have hh := HS.out _ hw'; go_split_ands; go_simp; (try with_reducible rfl); done)
            (try simp only [Act.put, List.getElem_toArray, List.getElem_cons_succ, List.getElem_cons_zero, List.setIfInBounds_toArray, List.set_cons_zero, List.set_cons_succ])
            refine wpAnyG_one 19 (by kernel_rfl) rfl (by rfl) (fun K hK => ?_)
            go_simp
            go_at_call 15
            refine (lhas (x := (x : Int)) (HI6.out _ (hx.trans gS)) (by rw [natsI_length]; have := HL3'.out; omega)).mono ?_
            rw [HM3.out]
            rintro _ s2 ⟨rfl, rfl⟩
            have g7 := gS
            (try go_wp2_with fail)
            refine hK.out _ _ (fun _ => gS) ?_
            clear hK K
            (try simp only [Act.put, List.getElem_toArray, List.getElem_cons_succ, List.getElem_cons_zero, List.setIfInBounds_toArray, List.set_cons_zero, List.set_cons_succ])
            refine wpAnyG_take 20 (v := ?_) rfl (by kernel_rfl) (by kernel_rfl) (by kernel_rfl) (by kernel_rfl) (by rfl) (by kernel_rfl) (fun _ _ _ h => h) (by rfl) (fun w' hw' => ?_) gS ?_
            rotate_left
            focus (go_simp; (try with_reducible rfl); done)
            (try simp only [Act.put, List.getElem_toArray, List.getElem_cons_succ, List.getElem_cons_zero, List.setIfInBounds_toArray, List.set_cons_zero, List.set_cons_succ])
            refine wpAnyG_one 21 (by kernel_rfl) rfl (by rfl) (fun K hK => ?_)
            go_simp
            refine hK.out _ _ (fun h => absurd h (by decide)) ?_
            clear hK K
            (try simp only [Act.put, List.getElem_toArray, List.getElem_cons_succ, List.getElem_cons_zero, List.setIfInBounds_toArray, List.set_cons_zero, List.set_cons_succ])
            refine wpAnyG_done (by kernel_rfl) ?_ _
            have hc1 := HS2.out _ g7
            go_wp2
            go_roundw
            all_goals first
              | rfl
              | exact ⟨⟨i + 1, by omega, by go_num, by rw [HCT.out]; go_num, hx.trans g7⟩, by simp [intOf]; omega⟩
              | exact ⟨i + 1, by omega, by go_num, by rw [HCT.out]; go_num, hx.trans g7⟩
              | (simp [intOf]; omega)
              | (simp; done)
          · have e1 : decide ((x : Int) ≤ (K : Int)) = false := decide_eq_false (by omega)
            rw [decide_eq_false hxk] at HM3
            rw [if_neg hxk] at HCT
            have e9 : decide (x ≤ K) = false := decide_eq_false hxk
            go_upto_region 16 with (fail)
            refine wp_region_G (fun w' => Ext wr w') [21] (by kernel_rfl) ?_
            have gS : Ext wr wr.drew := (Below.refl _ _).drew
            refine wpAnyG_take 0 (v := ?_) rfl (by kernel_rfl) (by kernel_rfl) (by kernel_rfl) (by kernel_rfl) (by rfl) (by kernel_rfl) (fun _ _ _ h => h) (by rfl) (fun w' hw' => ?_) gS ?_
            rotate_left
            focus (go_simp; (try with_reducible rfl); done)
            (try simp only [Act.put, List.getElem_toArray, List.getElem_cons_succ, List.getElem_cons_zero, List.setIfInBounds_toArray, List.set_cons_zero, List.set_cons_succ])
            refine wpAnyG_take 1 (v := ?_) rfl (by kernel_rfl) (by kernel_rfl) (by kernel_rfl) (by kernel_rfl) (by rfl) (by kernel_rfl) (fun _ _ _ h => h) (by rfl) (fun w' hw' => ?_) gS ?_
            rotate_left
            focus (go_simp; (try with_reducible rfl); done)
            (try simp only [Act.put, List.getElem_toArray, List.getElem_cons_succ, List.getElem_cons_zero, List.setIfInBounds_toArray, List.set_cons_zero, List.set_cons_succ])
            refine wpAnyG_take 2 (v := ?_) rfl (by kernel_rfl) (by kernel_rfl) (by kernel_rfl) (by kernel_rfl) (by rfl) (by kernel_rfl) (fun _ _ _ h => h) (by rfl) (fun w' hw' => ?_) gS ?_
            rotate_left
            focus (go_simp; (try with_reducible rfl); done)
            (try simp only [Act.put, List.getElem_toArray, List.getElem_cons_succ, List.getElem_cons_zero, List.setIfInBounds_toArray, List.set_cons_zero, List.set_cons_succ])
            refine wpAnyG_take 3 (v := ?_) rfl (by kernel_rfl) (by kernel_rfl) (by kernel_rfl) (by kernel_rfl) (by rfl) (by kernel_rfl) (fun _ _ _ h => h) (by rfl) (fun w' hw' => ?_) gS ?_
            rotate_left
            focus (go_simp; (try with_reducible rfl); done)
            (try simp only [Act.put, List.getElem_toArray, List.getElem_cons_succ, List.getElem_cons_zero, List.setIfInBounds_toArray, List.set_cons_zero, List.set_cons_succ])
            refine wpAnyG_take 4 (v := ?_) rfl (by kernel_rfl) (by kernel_rfl) (by kernel_rfl) (by kernel_rfl) (by rfl) (by kernel_rfl) (fun _ _ _ h => h) (by rfl) (fun w' hw' => ?_) gS ?_
            rotate_left
            focus (have hh := HS.out _ hw'; go_split_ands; go_simp; (try with_reducible rfl); done)
            (try simp only [Act.put, List.getElem_toArray, List.getElem_cons_succ, List.getElem_cons_zero, List.setIfInBounds_toArray, List.set_cons_zero, List.set_cons_succ])
            refine wpAnyG_one 5 (by kernel_rfl) rfl (by rfl) (fun K hK => ?_)
            go_simp
            go_at_call 15
            refine (lhas (x := (x : Int)) (HI56.out _ (hx.trans gS)) (by rw [natsI_length]; have := HL3'.out; omega)).mono ?_
            rw [HM2.out]
            rintro _ s1 ⟨rfl, rfl⟩
            (try go_wp2_with fail)
            refine hK.out _ _ (fun _ => gS) ?_
            clear hK K
            (try simp only [Act.put, List.getElem_toArray, List.getElem_cons_succ, List.getElem_cons_zero, List.setIfInBounds_toArray, List.set_cons_zero, List.set_cons_succ])
            refine wpAnyG_take 6 (v := ?_) rfl (by kernel_rfl) (by kernel_rfl) (by kernel_rfl) (by kernel_rfl) (by rfl) (by kernel_rfl) (fun _ _ _ h => h) (by rfl) (fun w' hw' => ?_) gS ?_
            rotate_left
            focus (go_simp; (try with_reducible rfl); done)
            (try simp only [Act.put, List.getElem_toArray, List.getElem_cons_succ, List.getElem_cons_zero, List.setIfInBounds_toArray, List.set_cons_zero, List.set_cons_succ])
            refine wpAnyG_take 7 (v := ?_) rfl (by kernel_rfl) (by kernel_rfl) (by kernel_rfl) (by kernel_rfl) (by rfl) (by kernel_rfl) (fun _ _ _ h => h) (by rfl) (fun w' hw' => ?_) gS ?_
            rotate_left
            focus (go_simp; (try with_reducible rfl); done)
            (try simp only [Act.put, List.getElem_toArray, List.getElem_cons_succ, List.getElem_cons_zero, List.setIfInBounds_toArray, List.set_cons_zero, List.set_cons_succ])
            refine wpAnyG_take 8 (v := ?_) rfl (by kernel_rfl) (by kernel_rfl) (by kernel_rfl) (by kernel_rfl) (by rfl) (by kernel_rfl) (fun _ _ _ h => h) (by rfl) (fun w' hw' => ?_) gS ?_
            rotate_left
            focus (go_simp; (try with_reducible rfl); done)
            (try simp only [Act.put, List.getElem_toArray, List.getElem_cons_succ, List.getElem_cons_zero, List.setIfInBounds_toArray, List.set_cons_zero, List.set_cons_succ])
            refine wpAnyG_take 9 (v := ?_) rfl (by kernel_rfl) (by kernel_rfl) (by kernel_rfl) (by kernel_rfl) (by rfl) (by kernel_rfl) (fun _ _ _ h => h) (by rfl) (fun w' hw' => ?_) gS ?_
            rotate_left
            focus (go_simp; (try with_reducible rfl); done)
            (try simp only [Act.put, List.getElem_toArray, List.getElem_cons_succ, List.getElem_cons_zero, List.setIfInBounds_toArray, List.set_cons_zero, List.set_cons_succ])
            refine wpAnyG_take 10 (v := ?_) rfl (by kernel_rfl) (by kernel_rfl) (by kernel_rfl) (by kernel_rfl) (by rfl) (by kernel_rfl) (fun _ _ _ h => h) (by rfl) (fun w' hw' => ?_) gS ?_
            rotate_left
            focus (go_simp; (try with_reducible rfl); done)
            (try simp only [Act.put, List.getElem_toArray, List.getElem_cons_succ, List.getElem_cons_zero, List.setIfInBounds_toArray, List.set_cons_zero, List.set_cons_succ])
            refine wpAnyG_take 11 (v := ?_) rfl (by kernel_rfl) (by kernel_rfl) (by kernel_rfl) (by kernel_rfl) (by rfl) (by kernel_rfl) (fun _ _ _ h => h) (by rfl) (fun w' hw' => ?_) gS ?_
            rotate_left
            focus (have hh := HS.out _ hw'; go_split_ands; go_simp; (try with_reducible rfl); done)
            (try simp only [Act.put, List.getElem_toArray, List.getElem_cons_succ, List.getElem_cons_zero, List.setIfInBounds_toArray, List.set_cons_zero, List.set_cons_succ])
            refine wpAnyG_take 12 (v := ?_) rfl (by kernel_rfl) (by kernel_rfl) (by kernel_rfl) (by kernel_rfl) (by rfl) (by kernel_rfl) (fun _ _ _ h => h) (by rfl) (fun w' hw' => ?_) gS ?_
            rotate_left
            focus (go_simp; (try with_reducible rfl); done)
            (try simp only [Act.put, List.getElem_toArray, List.getElem_cons_succ, List.getElem_cons_zero, List.setIfInBounds_toArray, List.set_cons_zero, List.set_cons_succ])
            refine wpAnyG_take 13 (v := ?_) rfl (by kernel_rfl) (by kernel_rfl) (by kernel_rfl) (by kernel_rfl) (by rfl) (by kernel_rfl) (fun _ _ _ h => h) (by rfl) (fun w' hw' => ?_) gS ?_
            rotate_left
            focus (go_simp; (try with_reducible rfl); done)
            (try simp only [Act.put, List.getElem_toArray, List.getElem_cons_succ, List.getElem_cons_zero, List.setIfInBounds_toArray, List.set_cons_zero, List.set_cons_succ])
            refine wpAnyG_take 14 (v := ?_) rfl (by kernel_rfl) (by kernel_rfl) (by kernel_rfl) (by kernel_rfl) (by rfl) (by kernel_rfl) (fun _ _ _ h => h) (by rfl) (fun w' hw' => ?_) gS ?_
            rotate_left
            focus (go_simp; (try with_reducible rfl); done)
            (try simp only [Act.put, List.getElem_toArray, List.getElem_cons_succ, List.getElem_cons_zero, List.setIfInBounds_toArray, List.set_cons_zero, List.set_cons_succ])
            refine wpAnyG_take 15 (v := ?_) rfl (by kernel_rfl) (by kernel_rfl) (by kernel_rfl) (by kernel_rfl) (by rfl) (by kernel_rfl) (fun _ _ _ h => h) (by rfl) (fun w' hw' => ?_) gS ?_
            rotate_left
            focus (go_simp; (try with_reducible rfl); done)
            (try simp only [Act.put, List.getElem_toArray, List.getElem_cons_succ, List.getElem_cons_zero, List.setIfInBounds_toArray, List.set_cons_zero, List.set_cons_succ])
            refine wpAnyG_take 16 (v := ?_) rfl (by kernel_rfl) (by kernel_rfl) (by kernel_rfl) (by kernel_rfl) (by rfl) (by kernel_rfl) (fun _ _ _ h => h) (by rfl) (fun w' hw' => ?_) gS ?_
            rotate_left
            focus (go_simp; (try with_reducible rfl); done)
            (try simp only [Act.put, List.getElem_toArray, List.getElem_cons_succ, List.getElem_cons_zero, List.setIfInBounds_toArray, List.set_cons_zero, List.set_cons_succ])
            refine wpAnyG_take 17 (v := ?_) rfl (by kernel_rfl) (by kernel_rfl) (by kernel_rfl) (by kernel_rfl) (by rfl) (by kernel_rfl) (fun _ _ _ h => h) (by rfl) (fun w' hw' => ?_) gS ?_
            rotate_left
            focus (go_simp; (try with_reducible rfl); done)
            (try simp only [Act.put, List.getElem_toArray, List.getElem_cons_succ, List.getElem_cons_zero, List.setIfInBounds_toArray, List.set_cons_zero, List.set_cons_succ])
            refine wpAnyG_take 18 (v := ?_) rfl (by kernel_rfl) (by kernel_rfl) (by kernel_rfl) (by kernel_rfl) (by rfl) (by kernel_rfl) (fun _ _ _ h => h) (by rfl) (fun w' hw' => ?_) gS ?_
            rotate_left
            focus (have hh := HS.out _ hw'; go_split_ands; go_simp; (try with_reducible rfl); done)
            (try simp only [Act.put, List.getElem_toArray, List.getElem_cons_succ, List.getElem_cons_zero, List.setIfInBounds_toArray, List.set_cons_zero, List.set_cons_succ])
            refine wpAnyG_one 19 (by kernel_rfl) rfl (by rfl) (fun K hK => ?_)
            go_simp
            go_at_call 15
            refine (lhas (x := (x : Int)) (HI6.out _ (hx.trans gS)) (by rw [natsI_length]; have := HL3'.out; omega)).mono ?_
            rw [HM3.out]
            rintro _ s2 ⟨rfl, rfl⟩
            have g7 := gS
            (try go_wp2_with fail)
            refine hK.out _ _ (fun _ => gS) ?_
            clear hK K
            (try simp only [Act.put, List.getElem_toArray, List.getElem_cons_succ, List.getElem_cons_zero, List.setIfInBounds_toArray, List.set_cons_zero, List.set_cons_succ])
            refine wpAnyG_take 20 (v := ?_) rfl (by kernel_rfl) (by kernel_rfl) (by kernel_rfl) (by kernel_rfl) (by rfl) (by kernel_rfl) (fun _ _ _ h => h) (by rfl) (fun w' hw' => ?_) gS ?_
            rotate_left
            focus (go_simp; (try with_reducible rfl); done)
            (try simp only [Act.put, List.getElem_toArray, List.getElem_cons_succ, List.getElem_cons_zero, List.setIfInBounds_toArray, List.set_cons_zero, List.set_cons_succ])
            refine wpAnyG_one 21 (by kernel_rfl) rfl (by rfl) (fun K hK => ?_)
            go_simp
            refine hK.out _ _ (fun h => absurd h (by decide)) ?_
            clear hK K
            (try simp only [Act.put, List.getElem_toArray, List.getElem_cons_succ, List.getElem_cons_zero, List.setIfInBounds_toArray, List.set_cons_zero, List.set_cons_succ])
            refine wpAnyG_done (by kernel_rfl) ?_ _
            have hc1 := HS2.out _ g7
            go_wp2
            go_roundw
            all_goals first
              | rfl
              | exact ⟨⟨i + 1, by omega, by go_num, by rw [HCT.out, Nat.add_zero], hx.trans g7⟩, by simp [intOf]; omega⟩
              | exact ⟨i + 1, by omega, by go_num, by rw [HCT.out, Nat.add_zero], hx.trans g7⟩
              | (simp [intOf]; omega)
              | (simp; done)
        · obtain rfl : i = L1.length := by omega
          rw [List.take_of_length_le (Nat.le_refl _), HD2.out.2.2.1]
          have hl3 : ((natsI L3).length : Int) = (L3.length : Int) := by rw [natsI_length]
          have hi3 : ¬ ((L1.length : Int) < ((natsI L1).length : Int)) := by rw [HL1.out]; omega
          go_wp2
          go_ret
          exact ⟨by first | rfl | simp [hl3], HXV.out.trans (y7.trans hx)⟩
    · have HK1 := Lib.hid (fun (w' : World) (h : Ext V w') => HSET.out N E M w' (XV.trans h))
      have HK2 := Lib.hid (fun (w' : World) (h : Ext V w') => HSET.out N E K w' (XV.trans h))
      have HE1 := Lib.hid (accE_arg hS.din hq)
      have HE2 := Lib.hid (accE_arg HDK.out hq)
      rw [HE1.out, setL_no (by rw [HE1.out]; decide)] at HK1
      rw [HE2.out, setL_no (by rw [HE2.out]; decide)] at HK2
      go_wp2_with fail
      refine (HK1.out _ f0).mono ?_
      rintro e U4 ⟨A4, k4, rfl, hI4, y4, _⟩
      have HS := Lib.hid (fun (w' : World) (h : Ext U4 w') => (⟨⟨(HP0.out _ (y4.trans h)).1, (HP0.out _ (y4.trans h)).2.1, (HP0.out _ (y4.trans h)).2.2.1⟩, (HP1.out _ (y4.trans h)).1, (HP1.out _ (y4.trans h)).2.1, (HP1.out _ (y4.trans h)).2.2.1⟩ : (w'.cell? ⟨w.heap.size, 0, none⟩ = some (.int .i64 N) ∧ w'.cell? ⟨w.heap.size, 1, none⟩ = some (.int .i64 E) ∧ w'.cell? ⟨w.heap.size, 2, none⟩ = some (.int .i64 M)) ∧ w'.cell? ⟨w.heap.size + 1, 0, none⟩ = some (.bool ng) ∧ w'.cell? ⟨w.heap.size + 1, 1, none⟩ = some s ∧ w'.cell? ⟨w.heap.size + 1, 2, none⟩ = some t))
      go_upto_region 6 with (fail)
      refine wp_region_G (fun w' => Ext U4 w') [14] (by kernel_rfl) ?_
      have gS : Ext U4 U4.drew := (Below.refl _ _).drew
      refine wpAnyG_take 0 (v := ?_) rfl (by kernel_rfl) (by kernel_rfl) (by kernel_rfl) (by kernel_rfl) (by rfl) (by kernel_rfl) (fun _ _ _ h => h) (by rfl) (fun w' hw' => ?_) gS ?_
      rotate_left
      focus (go_simp; (try with_reducible rfl); done)
      (try simp only [Act.put, List.getElem_toArray, List.getElem_cons_succ, List.getElem_cons_zero, List.setIfInBounds_toArray, List.set_cons_zero, List.set_cons_succ])
      refine wpAnyG_take 1 (v := ?_) rfl (by kernel_rfl) (by kernel_rfl) (by kernel_rfl) (by kernel_rfl) (by rfl) (by kernel_rfl) (fun _ _ _ h => h) (by rfl) (fun w' hw' => ?_) gS ?_
      rotate_left
      focus (have hh := HS.out _ hw'; go_split_ands; go_simp; (try with_reducible rfl); done)
      (try simp only [Act.put, List.getElem_toArray, List.getElem_cons_succ, List.getElem_cons_zero, List.setIfInBounds_toArray, List.set_cons_zero, List.set_cons_succ])
      refine wpAnyG_take 2 (v := ?_) rfl (by kernel_rfl) (by kernel_rfl) (by kernel_rfl) (by kernel_rfl) (by rfl) (by kernel_rfl) (fun _ _ _ h => h) (by rfl) (fun w' hw' => ?_) gS ?_
      rotate_left
      focus (go_simp; (try with_reducible rfl); done)
      (try simp only [Act.put, List.getElem_toArray, List.getElem_cons_succ, List.getElem_cons_zero, List.setIfInBounds_toArray, List.set_cons_zero, List.set_cons_succ])
      refine wpAnyG_take 3 (v := ?_) rfl (by kernel_rfl) (by kernel_rfl) (by kernel_rfl) (by kernel_rfl) (by rfl) (by kernel_rfl) (fun _ _ _ h => h) (by rfl) (fun w' hw' => ?_) gS ?_
      rotate_left
      focus (have hh := HS.out _ hw'; go_split_ands; go_simp; (try with_reducible rfl); done)
      (try simp only [Act.put, List.getElem_toArray, List.getElem_cons_succ, List.getElem_cons_zero, List.setIfInBounds_toArray, List.set_cons_zero, List.set_cons_succ])
      refine wpAnyG_take 4 (v := ?_) rfl (by kernel_rfl) (by kernel_rfl) (by kernel_rfl) (by kernel_rfl) (by rfl) (by kernel_rfl) (fun _ _ _ h => h) (by rfl) (fun w' hw' => ?_) gS ?_
      rotate_left
      focus (go_simp; (try with_reducible rfl); done)
      (try simp only [Act.put, List.getElem_toArray, List.getElem_cons_succ, List.getElem_cons_zero, List.setIfInBounds_toArray, List.set_cons_zero, List.set_cons_succ])
      refine wpAnyG_take 5 (v := ?_) rfl (by kernel_rfl) (by kernel_rfl) (by kernel_rfl) (by kernel_rfl) (by rfl) (by kernel_rfl) (fun _ _ _ h => h) (by rfl) (fun w' hw' => ?_) gS ?_
      rotate_left
      focus (have hh := HS.out _ hw'; go_split_ands; go_simp; (try with_reducible rfl); done)
      (try simp only [Act.put, List.getElem_toArray, List.getElem_cons_succ, List.getElem_cons_zero, List.setIfInBounds_toArray, List.set_cons_zero, List.set_cons_succ])
      refine wpAnyG_take 6 (v := ?_) rfl (by kernel_rfl) (by kernel_rfl) (by kernel_rfl) (by kernel_rfl) (by rfl) (by kernel_rfl) (fun _ _ _ h => h) (by rfl) (fun w' hw' => ?_) gS ?_
      rotate_left
      focus (have hh := HS.out _ hw'; go_split_ands; go_simp; (try with_reducible rfl); done)
      (try simp only [Act.put, List.getElem_toArray, List.getElem_cons_succ, List.getElem_cons_zero, List.setIfInBounds_toArray, List.set_cons_zero, List.set_cons_succ])
      refine wpAnyG_one 7 (by kernel_rfl) rfl (by rfl) (fun K hK => ?_)
      go_simp
      go_at_call 9
      refine (fof_n (n := 1) (d := 2) (by omega) (by omega)).mono ?_
      rintro _ s1 ⟨b4, A4', k4', c4', B4', l4, d4, rfl, h4, z4, _⟩
      have h4 : FracV s1 b4 (.slice A4' k4' c4') (.slice B4' l4 d4) half12 := h4
      have gS : Ext U4 s1 := Ext.trans gS z4
      (try go_wp2_with fail)
      refine hK.out _ _ (fun _ => gS) ?_
      clear hK K
      (try simp only [Act.put, List.getElem_toArray, List.getElem_cons_succ, List.getElem_cons_zero, List.setIfInBounds_toArray, List.set_cons_zero, List.set_cons_succ])
      refine wpAnyG_one 8 (by kernel_rfl) rfl (by rfl) (fun K hK => ?_)
      go_simp
      go_at_call 10
      refine (mul_f (HX.out _ (HXV.out.trans (y4.trans gS))) (FracV.any h4 half12_fb (by omega)) (by omega)).mono ?_
      rintro _ s2 ⟨b6, A6', k6', c6', B6', l6, d6, rfl, h6, z6, n6, m6⟩
      have gS : Ext U4 s2 := Ext.trans gS z6
      (try go_wp2_with fail)
      refine hK.out _ _ (fun _ => gS) ?_
      clear hK K
      (try simp only [Act.put, List.getElem_toArray, List.getElem_cons_succ, List.getElem_cons_zero, List.setIfInBounds_toArray, List.set_cons_zero, List.set_cons_succ])
      refine wpAnyG_one 9 (by kernel_rfl) rfl (by rfl) (fun K hK => ?_)
      go_simp
      go_at_call 14
      refine (kset_any (n := (N : Int)) (d := (E : Int)) (m := (M : Int)) (FracV.any h6 HFH.out (by omega)) (by omega) (by omega) (HT.out _ (HXV.out.trans (y4.trans gS)))).mono ?_
      rintro _ U5 ⟨A5, k5, rfl, hI5, y5, _⟩
      have gS : Ext U4 U5 := Ext.trans gS y5
      have x5 := gS
      (try go_wp2_with fail)
      refine hK.out _ _ (fun _ => gS) ?_
      clear hK K
      (try simp only [Act.put, List.getElem_toArray, List.getElem_cons_succ, List.getElem_cons_zero, List.setIfInBounds_toArray, List.set_cons_zero, List.set_cons_succ])
      refine wpAnyG_take 10 (v := ?_) rfl (by kernel_rfl) (by kernel_rfl) (by kernel_rfl) (by kernel_rfl) (by rfl) (by kernel_rfl) (fun _ _ _ h => h) (by rfl) (fun w' hw' => ?_) gS ?_
      rotate_left
      focus (go_simp; (try with_reducible rfl); done)
      (try simp only [Act.put, List.getElem_toArray, List.getElem_cons_succ, List.getElem_cons_zero, List.setIfInBounds_toArray, List.set_cons_zero, List.set_cons_succ])
      refine wpAnyG_take 11 (v := ?_) rfl (by kernel_rfl) (by kernel_rfl) (by kernel_rfl) (by kernel_rfl) (by rfl) (by kernel_rfl) (fun _ _ _ h => h) (by rfl) (fun w' hw' => ?_) gS ?_
      rotate_left
      focus (go_simp; (try with_reducible rfl); done)
      (try simp only [Act.put, List.getElem_toArray, List.getElem_cons_succ, List.getElem_cons_zero, List.setIfInBounds_toArray, List.set_cons_zero, List.set_cons_succ])
      refine wpAnyG_take 12 (v := ?_) rfl (by kernel_rfl) (by kernel_rfl) (by kernel_rfl) (by kernel_rfl) (by rfl) (by kernel_rfl) (fun _ _ _ h => h) (by rfl) (fun w' hw' => ?_) gS ?_
      rotate_left
      focus (go_simp; (try with_reducible rfl); done)
      (try simp only [Act.put, List.getElem_toArray, List.getElem_cons_succ, List.getElem_cons_zero, List.setIfInBounds_toArray, List.set_cons_zero, List.set_cons_succ])
      refine wpAnyG_take 13 (v := ?_) rfl (by kernel_rfl) (by kernel_rfl) (by kernel_rfl) (by kernel_rfl) (by rfl) (by kernel_rfl) (fun _ _ _ h => h) (by rfl) (fun w' hw' => ?_) gS ?_
      rotate_left
      focus (go_simp; (try with_reducible rfl); done)
      (try simp only [Act.put, List.getElem_toArray, List.getElem_cons_succ, List.getElem_cons_zero, List.setIfInBounds_toArray, List.set_cons_zero, List.set_cons_succ])
      refine wpAnyG_one 14 (by kernel_rfl) rfl (by rfl) (fun K hK => ?_)
      go_simp
      refine hK.out _ _ (fun h => absurd h (by decide)) ?_
      clear hK K
      (try simp only [Act.put, List.getElem_toArray, List.getElem_cons_succ, List.getElem_cons_zero, List.setIfInBounds_toArray, List.set_cons_zero, List.set_cons_succ])
      refine wpAnyG_done (by kernel_rfl) ?_ _
      have y6 := Ext.trans y4 x5
      obtain ⟨c00, c01, c02, _, _, _⟩ := HP0.out _ y6
      obtain ⟨c10, c11, c12, _, _, _⟩ := HP1.out _ y6
      go_wp2_with fail
      refine (HK2.out _ y6).mono ?_
      rintro e U6 ⟨A6, k6, rfl, hI6, x6, _⟩
      go_wp2
      go_ret
      exact ⟨rfl, HXV.out.trans (y6.trans x6)⟩
  · clear hs hd
    have HFW := Lib.hid hf
    clear hf
    go_enter Tryd.func5, Tryd.ntmps5
    go_upto_region 1 with (fail)
    have hB0 := (FBox.new w (.int .i64 a) (.int .i64 b) (.int .i64 c) 42).below (ext_alloc (Below.refl _ _) (.cells #[.bool ng, s, t] 27))
    have hB1 := FBox.new (w.alloc (.cells #[.int .i64 a, .int .i64 b, .int .i64 c] 42)) (.bool ng) (s) (t) 27
    rw [show (w.alloc (.cells #[.int .i64 a, .int .i64 b, .int .i64 c] 42)).heap.size = w.heap.size + 1 from by simp] at hB1
    have x0 : Ext w ((w.alloc (.cells #[.int .i64 a, .int .i64 b, .int .i64 c] 42)).alloc (.cells #[.bool ng, s, t] 27)) := ext_alloc (ext_alloc (Below.refl _ _) _) _
    have hs0 : w.heap.size + 1 + 1 ≤ ((w.alloc (.cells #[.int .i64 a, .int .i64 b, .int .i64 c] 42)).alloc (.cells #[.bool ng, s, t] 27)).heap.size := by simp
    generalize ((w.alloc (.cells #[.int .i64 a, .int .i64 b, .int .i64 c] 42)).alloc (.cells #[.bool ng, s, t] 27)) = W0 at *
    have HB0 := Lib.hid (fun (w' : World) (h : Ext W0 w') => hB0.below h)
    obtain ⟨c00, c01, c02, d00, d01, d02⟩ := hB0
    have HB1 := Lib.hid (fun (w' : World) (h : Ext W0 w') => hB1.below h)
    obtain ⟨c10, c11, c12, d10, d11, d12⟩ := hB1
    have HE := Lib.hid x0
    clear x0
    have f0 : Ext W0 W0 := Below.refl _ _
    go_wp2_with fail
    refine (kawake (HT.out _ HE.out)).mono ?_
    rintro e U1 ⟨rfl, y1⟩
    obtain ⟨c10, c11, c12, _, _, _⟩ := HB1.out _ y1
    go_wp2_with fail
    refine (lfew_f (HSL.out _ (HE.out.trans y1)) (HDL.out _ (HE.out.trans y1)) HFW.out).mono ?_
    rintro e U2 ⟨rfl, y2⟩
    have y2 := Ext.trans y1 y2
    go_wp2_with fail
    refine (kawake (HT.out _ (HE.out.trans y2))).mono ?_
    rintro e U3 ⟨rfl, y3⟩
    go_wp2
    go_ret
    exact ⟨rfl, HE.out.trans (y2.trans y3)⟩

end Go.Proofs.YtjdpkmngboiemaaDoor
