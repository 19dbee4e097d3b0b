/- The reference's Gain. -/
import Derived.Test.YtnedgbebajhcpaaGreatDoorRPlan
import Derived.Test.YtnedgbebajhcpaaGreatDoorOcM
set_option linter.unusedVariables false
set_option linter.unusedSimpArgs false
set_option maxRecDepth 100000
namespace Go.Proofs.YtnedgbebajhcpaaGreatDoor
open Go.RowKit Num

theorem rGain_arg {us : List Int} {A B : Option Addr} {c n d : Nat} {w : World} (hu : ¬ (PlanIn us ∧ 1 ≤ us.length ∧ us.length ≤ 4)) (hv : IntsV w (.slice A us.length c) us) :
    Calls Tryz.prog 13 #[.slice A us.length c, .slice B n d] w (GivesFN w 1) := by
  have HV := Lib.hid (fun (w' : World) (h : Ext w w') => hv.below h)
  have HU := Lib.hid hu
  clear hu hv
  go_enter Tryz.func13, Tryz.ntmps13
  go_upto_region 1 with (fail)
  have hF0 := FBox.new w (.bool false) (.slice none 0 0) (.slice none 0 0) 27
  have x0 : Ext w (w.alloc (.cells #[.bool false, .slice none 0 0, .slice none 0 0] 27)) := ext_alloc (Below.refl _ _) _
  have hs0 : w.heap.size + 1 ≤ (w.alloc (.cells #[.bool false, .slice none 0 0, .slice none 0 0] 27)).heap.size := by simp
  generalize w.alloc (.cells #[.bool false, .slice none 0 0, .slice none 0 0] 27) = W0 at *
  have HF := Lib.hid (fun (w' : World) (h : Ext W0 w') => hF0.below h)
  have HE := Lib.hid x0
  have f0 : Ext W0 W0 := Below.refl _ _
  obtain ⟨r0, r1, r2, g0, g1, g2⟩ := hF0
  clear x0
  go_wp2_with (go_at_call 33; (with_reducible refine (rplan_f (HV.out _ HE.out) HU.out).mono ?_); rintro e w1 ⟨rfl, hw1⟩; obtain rfl : W0 = w1 := hw1.symm)
  obtain ⟨q0, q1, q2⟩ := set3 r0 r1 r2 (.bool false) (.slice none 0 0) (.slice none 0 0)
  refine bodyPost_ret (v := .tuple #[.agg #[.bool false, .slice none 0 0, .slice none 0 0], .int .i64 1]) (by simp [results, Tryz.results13, go_sem, q0, q1, q2]) rfl ?_
  exact ⟨rfl, ext_put HE.out (Nat.le_refl _) _ _ _⟩
theorem rGain_len {us : List Int} {A B : Option Addr} {c n d : Nat} {w : World} (hu : PlanIn us ∧ 1 ≤ us.length ∧ us.length ≤ 4) (hn : n ≠ us.length) (hv : IntsV w (.slice A us.length c) us) :
    Calls Tryz.prog 13 #[.slice A us.length c, .slice B n d] w (GivesFN w 1) := by
  have HV := Lib.hid (fun (w' : World) (h : Ext w w') => hv.below h)
  have HU := Lib.hid hu
  have e1 : decide ((n : Int) = (us.length : Int)) = false := decide_eq_false (by omega)
  have e2 : ((n : Int) == (us.length : Int)) = false := by rw [beq_eq_false_iff_ne]; omega
  have e3 : ¬ (n = us.length) := hn
  clear hu hv hn
  go_enter Tryz.func13, Tryz.ntmps13
  go_upto_region 1 with (fail)
  have hF0 := FBox.new w (.bool false) (.slice none 0 0) (.slice none 0 0) 27
  have x0 : Ext w (w.alloc (.cells #[.bool false, .slice none 0 0, .slice none 0 0] 27)) := ext_alloc (Below.refl _ _) _
  have hs0 : w.heap.size + 1 ≤ (w.alloc (.cells #[.bool false, .slice none 0 0, .slice none 0 0] 27)).heap.size := by simp
  generalize w.alloc (.cells #[.bool false, .slice none 0 0, .slice none 0 0] 27) = W0 at *
  have HF := Lib.hid (fun (w' : World) (h : Ext W0 w') => hF0.below h)
  have HE := Lib.hid x0
  have f0 : Ext W0 W0 := Below.refl _ _
  obtain ⟨r0, r1, r2, g0, g1, g2⟩ := hF0
  clear x0
  go_wp2_with (go_at_call 33; (with_reducible refine (rplan_t (HV.out _ HE.out) HU.out.1 HU.out.2.1 HU.out.2.2).mono ?_); rintro e w1 ⟨rfl, hw1⟩; obtain rfl : W0 = w1 := hw1.symm)
  obtain ⟨q0, q1, q2⟩ := set3 r0 r1 r2 (.bool false) (.slice none 0 0) (.slice none 0 0)
  refine bodyPost_ret (v := .tuple #[.agg #[.bool false, .slice none 0 0, .slice none 0 0], .int .i64 1]) (by simp [results, Tryz.results13, go_sem, q0, q1, q2]) rfl ?_
  exact ⟨rfl, ext_put HE.out (Nat.le_refl _) _ _ _⟩

theorem CanV.putG {w : World} {v : Value} {n b B : Nat} (h : CanV w v n) (hn : New B v) (hb : b < B) (x y z : Value) : CanV (((w.setCell ⟨b, 0, none⟩ x).setCell ⟨b, 1, none⟩ y).setCell ⟨b, 2, none⟩ z) v n :=
  U32s.setNew (U32s.setNew (U32s.setNew h hn hb _) hn hb _) hn hb _
/-- The mean, whichever way. -/
theorem rmean_any {x : Int} {d : Nat} (hd : 1 ≤ d ∧ d ≤ 60) : ∃ (bb : Bool) (mm kk : Nat) (er : Int), (∀ w, Calls Tryz.prog 24 #[.int .i64 x, .int .i64 d] w (GivesP w bb mm kk er)) ∧
    (0 ≤ x ∧ x ≤ 30 → er = 0 ∧ bb = decide (meanQ x.toNat d < 0) ∧ mm = (meanQ x.toNat d).num.natAbs ∧ kk = (meanQ x.toNat d).den) ∧ (¬ (0 ≤ x ∧ x ≤ 30) → er = 2) := by
  by_cases h : 0 ≤ x ∧ x ≤ 30
  · obtain ⟨n, rfl⟩ : ∃ n : Nat, x = n := ⟨x.toNat, by omega⟩
    exact ⟨_, _, _, _, fun w => (rmean_ok (n := n) (D := d) (by omega) hd.1 hd.2).mono fun _ _ h => h.p, fun _ => ⟨rfl, rfl, rfl, rfl⟩, fun h' => absurd h h'⟩
  · exact ⟨_, _, _, _, fun w => (rmean_no (n := x) (D := (d : Int)) (fun h' => h h'.1)).mono fun _ _ h => h.p, fun h' => absurd h' h, fun _ => rfl⟩
theorem gain_fbk {D : List Nat} {zs : List Int} (hD : PlanN D) (hlen : zs.length = D.length) {k : Nat} (hk : k ≤ zs.length) (h : SpecIn (zs.take k)) : FB (gainQ (at0 D) (at0 (toN zs)) k) 200 := by
  have h0 := sumQ_fb (f := fun i => meanQ (at0 (toN zs) i) (at0 D i)) (L := 38) (n := k) fun j hj => meanQ_fb (by
    rw [at0_toN]
    have := h _ (getD_mem0 (us := zs) hj hk)
    omega) (hD.2 _ (at0_mem (by omega))).1 (hD.2 _ (at0_mem (by omega))).2
  exact FB.mono h0 (by have := hD.1.2; omega)
theorem spec_next {zs : List Int} {k : Nat} (hk : k < zs.length) (h : SpecIn (zs.take k)) (hx : 0 ≤ zs.getD k 0 ∧ zs.getD k 0 ≤ 30) : SpecIn (zs.take (k + 1)) := by
  intro u hu
  rw [List.take_add_one, List.mem_append] at hu
  rcases hu with hu | hu
  · exact h u hu
  · rw [List.getElem?_eq_getElem hk] at hu
    simp at hu
    subst hu
    rw [List.getD_eq_getElem?_getD, List.getElem?_eq_getElem hk] at hx
    exact hx

set_option maxHeartbeats 8000000 in
theorem rGain_any {D : List Nat} {zs : List Int} {A B : Option Addr} {c d : Nat} {w : World} (hD : PlanN D) (hlen : zs.length = D.length) (hv : IntsV w (.slice A (natsS D).length c) (natsS D)) (hy : IntsV w (.slice B zs.length d) zs) :
    Calls Tryz.prog 13 #[.slice A (natsS D).length c, .slice B zs.length d] w (fun e w' => (SpecIn zs ∧ GivesFE w (gl D (toN zs)) e w') ∨ (¬ SpecIn zs ∧ GivesFN w 2 e w')) := by
  have HV := Lib.hid (fun (w' : World) (h : Ext w w') => hv.below h)
  have HY := Lib.hid (fun (w' : World) (h : Ext w w') => hy.below h)
  have HPI := Lib.hid (planN_in hD)
  have hd4 := HPI.out.1
  have HDD := Lib.hid hD
  have HLN := Lib.hid hlen
  have HNL := Lib.hid (show (natsS D).length = D.length from natsS_length D)
  have HFB := Lib.hid (fun (k : Nat) (hk : k ≤ zs.length) (h : SpecIn (zs.take k)) => gain_fbk hD hlen hk h)
  have hn : zs.length = (natsS D).length := by rw [HNL.out, hlen]
  have HQL := Lib.hid hn
  clear hv hy hD hlen
  go_enter Tryz.func13, Tryz.ntmps13
  go_upto_region 1 with (fail)
  have hF0 := FBox.new w (.bool false) (.slice none 0 0) (.slice none 0 0) 27
  have x0 : Ext w (w.alloc (.cells #[.bool false, .slice none 0 0, .slice none 0 0] 27)) := ext_alloc (Below.refl _ _) _
  have hs0 : w.heap.size + 1 ≤ (w.alloc (.cells #[.bool false, .slice none 0 0, .slice none 0 0] 27)).heap.size := by simp
  generalize w.alloc (.cells #[.bool false, .slice none 0 0, .slice none 0 0] 27) = W0 at *
  have HF := Lib.hid (fun (w' : World) (h : Ext W0 w') => hF0.below h)
  have HE := Lib.hid x0
  have f0 : Ext W0 W0 := Below.refl _ _
  obtain ⟨r0, r1, r2, g0, g1, g2⟩ := hF0
  clear x0
  go_upto_region 3 with (go_at_call 33; (with_reducible refine (rplan_t (HV.out _ HE.out) HPI.out.2 HPI.out.1.1 HPI.out.1.2).mono ?_); rintro e w1 ⟨rfl, hw1⟩; obtain rfl : W0 = w1 := hw1.symm)
  go_wp2_with fail
  refine (rfof_n (n := 0) (d := 1) (by omega) (by omega)).mono ?_
  rintro e w6 ⟨b6, A6, k6, c6, A6', k6', c6', rfl, h6, y6, n6, n6'⟩
  rw [zero_first] at h6
  have hlo : W0.heap.size ≤ w6.heap.size := y6.size
  go_upto_region 4 with (fail)
  have hG6 := FBox.new w6 (.bool b6) (.slice A6 k6 c6) (.slice A6' k6' c6') 27
  have Y6 : Ext W0 (w6.alloc (.cells #[.bool b6, .slice A6 k6 c6, .slice A6' k6' c6'] 27)) := ext_alloc y6 _
  have h6 := h6.below (ext_alloc (Below.refl _ _) (.cells #[.bool b6, .slice A6 k6 c6, .slice A6' k6' c6'] 27))
  have hsz6 : w6.heap.size < (w6.alloc (.cells #[.bool b6, .slice A6 k6 c6, .slice A6' k6' c6'] 27)).heap.size := by simp
  generalize w6.alloc (.cells #[.bool b6, .slice A6 k6 c6, .slice A6' k6' c6'] 27) = W6 at *
  generalize w6.heap.size = B6 at *
  go_wp2
  go_loopw [7] (fun iv wr => ∃ k : Nat, k ≤ zs.length ∧ iv = .int .i64 k ∧ Hid (SpecIn (zs.take k)) ∧ FIs W0 wr B6 (gainQ (at0 D) (at0 (toN zs)) k)) (fun iv _ => zs.length - (intOf iv).toNat)
  case atStart => exact ⟨0, Nat.zero_le _, rfl, Lib.hid (by intro u hu; simp at hu), b6, A6, k6, c6, A6', k6', c6', hG6, h6, Y6, n6, n6'⟩
  case round =>
    clear hG6 h6 Y6 n6 n6'
    obtain ⟨k, hk, rfl, HTK, cc, MA, mk, ml, MA', mk', ml', hM, vM, xM, nM, nM'⟩ := hrel
    have HM2 := Lib.hid (fun (w' : World) (h : Ext wr w') => hM.below h)
    have hMl := hM.lt
    by_cases hkn : k < zs.length
    · have HMA := Lib.hid (fun (w' : World) (h : Ext wr w') => FracV.any (vM.below h) (HFB.out k hk HTK.out) (by omega))
      have HF1 := Lib.hid (HFB.out k hk HTK.out)
      obtain ⟨b1, o1, rfl, hb1, hc1⟩ := (HV.out _ (HE.out.trans xM)).plS (k := k) (by omega)
      obtain ⟨b2, o2, rfl, hb2, hc2⟩ := (HY.out _ (HE.out.trans xM)).plS hkn
      rw [getD_natsS (by rw [← HLN.out]; exact hkn)] at hc1
      have hdd := HDD.out.2 _ (at0_mem (l := D) (i := k) (by rw [← HLN.out]; exact hkn))
      obtain ⟨x, hx⟩ : ∃ x, x = zs.getD k 0 := ⟨_, rfl⟩
      obtain ⟨y, hy⟩ : ∃ y, y = at0 D k := ⟨_, rfl⟩
      have HX := Lib.hid hx
      have HYD := Lib.hid hy
      rw [← hx] at hc2
      rw [← hy] at hc1 hdd
      have hi1 : (0 : Int) ≤ (k : Int) := by omega
      have hi2 : (k : Int) < ((natsS D).length : Int) := by omega
      have hi3 : (k : Int) < (zs.length : Int) := by omega
      have hw1 : IntKind.i64.wrap ((k : Int) + 1) = (k : Int) + 1 := wrap_in (by omega)
      obtain ⟨bb, mm, kk, er, HC, hin, hout⟩ := rmean_any (x := x) hdd
      have HMC := Lib.hid HC
      have HS := Lib.hid (fun (w' : World) (h : Ext wr w') => (⟨(h.cell (p := ⟨b1, o1 + k, none⟩) hb1).trans hc1, (h.cell (p := ⟨b2, o2 + k, none⟩) hb2).trans hc2⟩ : w'.cell? ⟨b1, o1 + k, none⟩ = some (.int .i64 y) ∧ w'.cell? ⟨b2, o2 + k, none⟩ = some (.int .i64 x)))
      have HIN := Lib.hid hin
      have HOUT := Lib.hid hout
      clear hx hy vM hM HC hin hout hc1 hc2
      go_upto_region 7 with (fail)
      go_cut [8, 9] (fun bv ev wx => ev = .int .i64 er ∧ ∃ (bm : Nat) (A : Option Addr) (k l : Nat) (A' : Option Addr) (k' l' : Nat), bv = .pointer (some ⟨bm, 0, none⟩) ∧ wr.heap.size ≤ bm ∧ FBox wx bm (.bool bb) (.slice A k l) (.slice A' k' l') ∧ CanV wx (.slice A k l) mm ∧ CanV wx (.slice A' k' l') kk ∧ Ext wr wx)
      case first =>
        refine wp_region_G (fun w' => Ext wr w') [14] (by kernel_rfl) ?_
        have gS : Ext wr wr.drew := (Below.refl _ _).drew
        refine wpAnyG_take 0 (v := ?_) rfl (by kernel_rfl) (by kernel_rfl) (by kernel_rfl) (by kernel_rfl) (by rfl) (by kernel_rfl) (fun _ _ _ h => h) (by rfl) (fun w' hw' => ?_) gS ?_
        rotate_left
        focus (go_simp; (try with_reducible rfl); done)
        (try simp only [Act.put, List.getElem_toArray, List.getElem_cons_succ, List.getElem_cons_zero, List.setIfInBounds_toArray, List.set_cons_zero, List.set_cons_succ])
        refine wpAnyG_take 1 (v := ?_) rfl (by kernel_rfl) (by kernel_rfl) (by kernel_rfl) (by kernel_rfl) (by rfl) (by kernel_rfl) (fun _ _ _ h => h) (by rfl) (fun w' hw' => ?_) gS ?_
        rotate_left
        focus (go_simp; (try with_reducible rfl); done)
        (try simp only [Act.put, List.getElem_toArray, List.getElem_cons_succ, List.getElem_cons_zero, List.setIfInBounds_toArray, List.set_cons_zero, List.set_cons_succ])
        refine wpAnyG_take 2 (v := ?_) rfl (by kernel_rfl) (by kernel_rfl) (by kernel_rfl) (by kernel_rfl) (by rfl) (by kernel_rfl) (fun _ _ _ h => h) (by rfl) (fun w' hw' => ?_) gS ?_
        rotate_left
        focus (go_simp; (try with_reducible rfl); done)
        (try simp only [Act.put, List.getElem_toArray, List.getElem_cons_succ, List.getElem_cons_zero, List.setIfInBounds_toArray, List.set_cons_zero, List.set_cons_succ])
        refine wpAnyG_take 3 (v := ?_) rfl (by kernel_rfl) (by kernel_rfl) (by kernel_rfl) (by kernel_rfl) (by rfl) (by kernel_rfl) (fun _ _ _ h => h) (by rfl) (fun w' hw' => ?_) gS ?_
        rotate_left
        focus (have hh := HS.out _ hw'; go_split_ands; go_simp; (try with_reducible rfl); done)
        (try simp only [Act.put, List.getElem_toArray, List.getElem_cons_succ, List.getElem_cons_zero, List.setIfInBounds_toArray, List.set_cons_zero, List.set_cons_succ])
        refine wpAnyG_take 4 (v := ?_) rfl (by kernel_rfl) (by kernel_rfl) (by kernel_rfl) (by kernel_rfl) (by rfl) (by kernel_rfl) (fun _ _ _ h => h) (by rfl) (fun w' hw' => ?_) gS ?_
        rotate_left
        focus (go_simp; (try with_reducible rfl); done)
        (try simp only [Act.put, List.getElem_toArray, List.getElem_cons_succ, List.getElem_cons_zero, List.setIfInBounds_toArray, List.set_cons_zero, List.set_cons_succ])
        refine wpAnyG_take 5 (v := ?_) rfl (by kernel_rfl) (by kernel_rfl) (by kernel_rfl) (by kernel_rfl) (by rfl) (by kernel_rfl) (fun _ _ _ h => h) (by rfl) (fun w' hw' => ?_) gS ?_
        rotate_left
        focus (go_simp; (try with_reducible rfl); done)
        (try simp only [Act.put, List.getElem_toArray, List.getElem_cons_succ, List.getElem_cons_zero, List.setIfInBounds_toArray, List.set_cons_zero, List.set_cons_succ])
        refine wpAnyG_take 6 (v := ?_) rfl (by kernel_rfl) (by kernel_rfl) (by kernel_rfl) (by kernel_rfl) (by rfl) (by kernel_rfl) (fun _ _ _ h => h) (by rfl) (fun w' hw' => ?_) gS ?_
        rotate_left
        focus (go_simp; (try with_reducible rfl); done)
        (try simp only [Act.put, List.getElem_toArray, List.getElem_cons_succ, List.getElem_cons_zero, List.setIfInBounds_toArray, List.set_cons_zero, List.set_cons_succ])
        refine wpAnyG_take 7 (v := ?_) rfl (by kernel_rfl) (by kernel_rfl) (by kernel_rfl) (by kernel_rfl) (by rfl) (by kernel_rfl) (fun _ _ _ h => h) (by rfl) (fun w' hw' => ?_) gS ?_
        rotate_left
        focus (have hh := HS.out _ hw'; go_split_ands; go_simp; (try with_reducible rfl); done)
        (try simp only [Act.put, List.getElem_toArray, List.getElem_cons_succ, List.getElem_cons_zero, List.setIfInBounds_toArray, List.set_cons_zero, List.set_cons_succ])
        refine wpAnyG_two 8 12 (by kernel_rfl) rfl rfl (by rfl) (by rfl) (fun K hK => ?_) (fun K hK => ?_)
        · go_simp
          go_at_call 24
          refine (HMC.out _).mono ?_
          rintro _ s1 ⟨A1, k1, c1, A1', k1', c1', rfl, h1, g1, z1, n1, n1'⟩
          have gS : Ext wr s1 := Ext.trans gS z1
          have gg := gS
          (try go_wp2_with fail)
          refine hK.out _ _ (fun _ => gS) ?_
          clear hK K
          (try simp only [Act.put, List.getElem_toArray, List.getElem_cons_succ, List.getElem_cons_zero, List.setIfInBounds_toArray, List.set_cons_zero, List.set_cons_succ])
          refine wpAnyG_take 9 (v := ?_) rfl (by kernel_rfl) (by kernel_rfl) (by kernel_rfl) (by kernel_rfl) (by rfl) (by kernel_rfl) (fun _ _ _ h => h) (by rfl) (fun w' hw' => ?_) gS ?_
          rotate_left
          focus (go_simp; (try with_reducible rfl); done)
          (try simp only [Act.put, List.getElem_toArray, List.getElem_cons_succ, List.getElem_cons_zero, List.setIfInBounds_toArray, List.set_cons_zero, List.set_cons_succ])
          refine wpAnyG_take 10 (v := ?_) rfl (by kernel_rfl) (by kernel_rfl) (by kernel_rfl) (by kernel_rfl) (by rfl) (by kernel_rfl) (fun _ _ _ h => h) (by rfl) (fun w' hw' => ?_) gS ?_
          rotate_left
          focus (go_simp; (try with_reducible rfl); done)
          (try simp only [Act.put, List.getElem_toArray, List.getElem_cons_succ, List.getElem_cons_zero, List.setIfInBounds_toArray, List.set_cons_zero, List.set_cons_succ])
          refine wpAnyG_take 11 (v := ?_) rfl (by kernel_rfl) (by kernel_rfl) (by kernel_rfl) (by kernel_rfl) (by rfl) (by kernel_rfl) (fun _ _ _ h => h) (by rfl) (fun w' hw' => ?_) gS ?_
          rotate_left
          focus (go_simp; (try with_reducible rfl); done)
          (try simp only [Act.put, List.getElem_toArray, List.getElem_cons_succ, List.getElem_cons_zero, List.setIfInBounds_toArray, List.set_cons_zero, List.set_cons_succ])
          refine wpAnyG_one 12 (by kernel_rfl) rfl (by rfl) (fun K hK => ?_)
          (try simp only [List.getElem_toArray, List.getElem_cons_succ, List.getElem_cons_zero])
          go_simp
          have gS := ext_alloc gS (.cells #[.bool false, .slice none 0 0, .slice none 0 0] 27)
          (try go_wp2_with fail)
          refine hK.out _ _ (fun _ => gS) ?_
          clear hK K
          (try simp only [Act.put, List.getElem_toArray, List.getElem_cons_succ, List.getElem_cons_zero, List.setIfInBounds_toArray, List.set_cons_zero, List.set_cons_succ])
          refine wpAnyG_one 13 (by kernel_rfl) rfl (by rfl) (fun K hK => ?_)
          (try simp only [List.getElem_toArray, List.getElem_cons_succ, List.getElem_cons_zero])
          go_simp
          (try go_wp2_with fail)
          refine hK.out _ _ (fun _ => ext_alloc gg _) ?_
          clear hK K
          (try simp only [Act.put, List.getElem_toArray, List.getElem_cons_succ, List.getElem_cons_zero, List.setIfInBounds_toArray, List.set_cons_zero, List.set_cons_succ])
          refine wpAnyG_one 14 (by kernel_rfl) rfl (by rfl) (fun K hK => ?_)
          (try simp only [List.getElem_toArray, List.getElem_cons_succ, List.getElem_cons_zero])
          go_simp
          refine hK.out _ _ (fun h => absurd h (by decide)) ?_
          clear hK K
          (try simp only [Act.put, List.getElem_toArray, List.getElem_cons_succ, List.getElem_cons_zero, List.setIfInBounds_toArray, List.set_cons_zero, List.set_cons_succ])
          refine wpAnyG_done (by kernel_rfl) ?_ _
          go_wp2
          go_meet
          exact ⟨rfl, _, A1, k1, c1, A1', k1', c1', rfl, gg.size, FBox.new _ _ _ _ _, h1.below (ext_alloc (Below.refl _ _) _), g1.below (ext_alloc (Below.refl _ _) _), ext_alloc gg _⟩
        · go_simp
          have gS := ext_alloc gS (.cells #[.bool false, .slice none 0 0, .slice none 0 0] 27)
          have dF : FBox (wr.alloc (.cells #[.bool false, .slice none 0 0, .slice none 0 0] 27)).drew wr.heap.size (.bool false) (.slice none 0 0) (.slice none 0 0) := FBox.new wr (.bool false) (.slice none 0 0) (.slice none 0 0) 27
          (try go_wp2_with fail)
          refine hK.out _ _ (fun _ => gS) ?_
          clear hK K
          (try simp only [Act.put, List.getElem_toArray, List.getElem_cons_succ, List.getElem_cons_zero, List.setIfInBounds_toArray, List.set_cons_zero, List.set_cons_succ])
          refine wpAnyG_one 8 (by kernel_rfl) rfl (by rfl) (fun K hK => ?_)
          go_simp
          go_at_call 24
          refine (HMC.out _).mono ?_
          rintro _ s1 ⟨A1, k1, c1, A1', k1', c1', rfl, h1, g1, z1, n1, n1'⟩
          have hz1 := z1.size
          have gS : Ext wr s1 := Ext.trans gS z1
          have dF := dF.below z1
          have gg := gS
          have hdl : wr.heap.size < s1.heap.size := by simp at hz1; omega
          (try go_wp2_with fail)
          refine hK.out _ _ (fun _ => gS) ?_
          clear hK K
          (try simp only [Act.put, List.getElem_toArray, List.getElem_cons_succ, List.getElem_cons_zero, List.setIfInBounds_toArray, List.set_cons_zero, List.set_cons_succ])
          refine wpAnyG_take 9 (v := ?_) rfl (by kernel_rfl) (by kernel_rfl) (by kernel_rfl) (by kernel_rfl) (by rfl) (by kernel_rfl) (fun _ _ _ h => h) (by rfl) (fun w' hw' => ?_) gS ?_
          rotate_left
          focus (go_simp; (try with_reducible rfl); done)
          (try simp only [Act.put, List.getElem_toArray, List.getElem_cons_succ, List.getElem_cons_zero, List.setIfInBounds_toArray, List.set_cons_zero, List.set_cons_succ])
          refine wpAnyG_take 10 (v := ?_) rfl (by kernel_rfl) (by kernel_rfl) (by kernel_rfl) (by kernel_rfl) (by rfl) (by kernel_rfl) (fun _ _ _ h => h) (by rfl) (fun w' hw' => ?_) gS ?_
          rotate_left
          focus (go_simp; (try with_reducible rfl); done)
          (try simp only [Act.put, List.getElem_toArray, List.getElem_cons_succ, List.getElem_cons_zero, List.setIfInBounds_toArray, List.set_cons_zero, List.set_cons_succ])
          refine wpAnyG_take 11 (v := ?_) rfl (by kernel_rfl) (by kernel_rfl) (by kernel_rfl) (by kernel_rfl) (by rfl) (by kernel_rfl) (fun _ _ _ h => h) (by rfl) (fun w' hw' => ?_) gS ?_
          rotate_left
          focus (go_simp; (try with_reducible rfl); done)
          (try simp only [Act.put, List.getElem_toArray, List.getElem_cons_succ, List.getElem_cons_zero, List.setIfInBounds_toArray, List.set_cons_zero, List.set_cons_succ])
          obtain ⟨j0, j1, j2, l0, l1, l2⟩ := dF
          refine wpAnyG_one 13 (by kernel_rfl) rfl (by rfl) (fun K hK => ?_)
          (try simp only [List.getElem_toArray, List.getElem_cons_succ, List.getElem_cons_zero])
          go_simp
          (try go_wp2_with fail)
          refine hK.out _ _ (fun _ => ext_put gg (Nat.le_refl _) _ _ _) ?_
          clear hK K
          (try simp only [Act.put, List.getElem_toArray, List.getElem_cons_succ, List.getElem_cons_zero, List.setIfInBounds_toArray, List.set_cons_zero, List.set_cons_succ])
          refine wpAnyG_one 14 (by kernel_rfl) rfl (by rfl) (fun K hK => ?_)
          (try simp only [List.getElem_toArray, List.getElem_cons_succ, List.getElem_cons_zero])
          go_simp
          refine hK.out _ _ (fun h => absurd h (by decide)) ?_
          clear hK K
          (try simp only [Act.put, List.getElem_toArray, List.getElem_cons_succ, List.getElem_cons_zero, List.setIfInBounds_toArray, List.set_cons_zero, List.set_cons_succ])
          refine wpAnyG_done (by kernel_rfl) ?_ _
          go_wp2
          go_meet
          exact ⟨rfl, _, A1, k1, c1, A1', k1', c1', rfl, Nat.le_refl _, FBox.put ⟨j0, j1, j2, l0, l1, l2⟩ _ _ _, h1.putG n1 (by simp) _ _ _, g1.putG n1' (by simp) _ _ _, ext_put gg (Nat.le_refl _) _ _ _⟩
      case rest =>
        obtain ⟨rfl, bm, A8, k8, l8, A9, k9, l9, rfl, hbm, hG, c8, c9, hW⟩ := hcut
        obtain ⟨WC, hWC⟩ : ∃ WC : World, WC = wc := ⟨_, rfl⟩
        subst hWC
        by_cases hok : 0 ≤ x ∧ x ≤ 30
        · obtain ⟨rfl, hbb, rfl, rfl⟩ := HIN.out hok
          have hm : FracV WC bb (.slice A8 k8 l8) (.slice A9 k9 l9) (meanQ x.toNat y) := ⟨hbb, c8, c9⟩
          obtain ⟨mq, hmq⟩ : ∃ q, q = meanQ x.toNat y := ⟨_, rfl⟩
          have HFM := Lib.hid (show FB mq 38 from by rw [hmq]; exact meanQ_fb (n := x.toNat) (D := y) (by omega) hdd.1 hdd.2)
          have HST := Lib.hid (show gainQ (at0 D) (at0 (toN zs)) (k + 1) = gainQ (at0 D) (at0 (toN zs)) k + mq from by
            rw [hmq, HX.out, HYD.out, ← at0_toN]; rfl)
          rw [← hmq] at hm
          have HMV := Lib.hid (fun (w' : World) (h : Ext WC w') => FracV.any (hm.below h) HFM.out (by omega))
          have HSP := Lib.hid (spec_next hkn HTK.out (by rw [← HX.out]; exact hok))
          obtain ⟨S1, hS1⟩ : ∃ S1, S1 = gainQ (at0 D) (at0 (toN zs)) k := ⟨_, rfl⟩
          obtain ⟨S2, hS2⟩ : ∃ S2, S2 = gainQ (at0 D) (at0 (toN zs)) (k + 1) := ⟨_, rfl⟩
          rw [← hS1, ← hS2] at HST
          rw [← hS1] at HMA HF1
          have HS2 := Lib.hid hS2
          clear hbb hm c8 c9 hmq hS1 hS2 HIN HOUT HMC
          obtain ⟨p0, p1, p2, _, _, _⟩ := hG
          obtain ⟨m0, m1, m2, gm0, gm1, gm2⟩ := HM2.out _ hW
          have hsz := hW.size
          go_wp2_with (go_at_call 36; (with_reducible refine (radd_f (HMA.out _ hW) (HMV.out _ (Below.refl _ _)) HF1.out HFM.out (by omega)).mono ?_); rintro _ s3 ⟨b3, A3, k3, c3, B3, l3, d3, rfl, h3, z3, n3, m3⟩; have f3 := hW.trans z3; obtain ⟨m0, m1, m2, gm0, gm1, gm2⟩ := HM2.out _ f3)
          rw [← HST.out] at h3
          go_roundw
          all_goals first
            | exact ⟨k + 1, by omega, by go_num, HSP, b3, A3, k3, c3, B3, l3, d3, (HM2.out _ f3).put _ _ _, by rw [← HS2.out]; exact FracV.put h3 n3 m3 (by omega) _ _ _, ext_put (xM.trans f3) hlo _ _ _, n3.mono (by have := xM.size; omega), m3.mono (by have := xM.size; omega)⟩
            | (simp [intOf]; omega)
        · obtain rfl := HOUT.out hok
          clear HIN HMC c8 c9
          obtain ⟨r0, r1, r2, g0, g1, g2⟩ := HF.out _ (xM.trans hW)
          go_wp2
          obtain ⟨q0, q1, q2⟩ := set3 r0 r1 r2 (.bool false) (.slice none 0 0) (.slice none 0 0)
          refine bodyPost_ret (v := .tuple #[.agg #[.bool false, .slice none 0 0, .slice none 0 0], .int .i64 2]) (by simp [results, Tryz.results13, go_sem, q0, q1, q2]) rfl ?_
          exact .inr ⟨fun h => hok (by rw [HX.out]; exact h _ (getD_memS hkn)), rfl, ext_put (HE.out.trans (xM.trans hW)) (Nat.le_refl _) _ _ _⟩
    · obtain rfl : k = zs.length := by omega
      have hkk : ¬ ((zs.length : Int) < ((natsS D).length : Int)) := by omega
      have hkk2 : ¬ ((zs.length : Int) < (zs.length : Int)) := by omega
      have hSP := HTK.out
      rw [List.take_length] at hSP
      have HSP := Lib.hid hSP
      have hgl : gainQ (at0 D) (at0 (toN zs)) zs.length = gl D (toN zs) := by unfold gl; rw [HLN.out]
      rw [hgl] at vM
      clear hSP hgl
      obtain ⟨m0, m1, m2, gm0, gm1, gm2⟩ := hM
      obtain ⟨r0, r1, r2, g0, g1, g2⟩ := HF.out _ xM
      go_wp2
      obtain ⟨q0, q1, q2⟩ := set3 r0 r1 r2 (.bool cc) (.slice MA mk ml) (.slice MA' mk' ml')
      refine bodyPost_ret (v := .tuple #[.agg #[.bool cc, .slice MA mk ml, .slice MA' mk' ml'], .int .i64 0]) (by simp [results, Tryz.results13, go_sem, q0, q1, q2]) rfl ?_
      exact .inl ⟨HSP.out, GivesFE.box (B := w.heap.size) (HE.out.trans xM) vM (nM.mono (by omega)) (nM'.mono (by omega)) (Nat.le_refl _)⟩

end Go.Proofs.YtnedgbebajhcpaaGreatDoor
